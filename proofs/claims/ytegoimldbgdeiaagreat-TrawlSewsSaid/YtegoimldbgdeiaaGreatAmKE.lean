/- The abstract machine: what it does is what the model does: append and copy. -/
import Derived.Test.YtegoimldbgdeiaaGreatAmKD
import Derived.Lib.AppendStr
set_option linter.all false
open Array renaming getElem?_toList→aaO, length_toList→aa1, toList_append→aa6, size_append→aba
open Bool renaming and_eq_true→aas
open Go.Builtin renaming append_→aao, zeroCells→aap, lenOf→aa3, firstCells→aa4
open Go.Lib renaming strCells→aa7, strCells_length→abg, strCells_oneCell→abj
open Go.Result renaming andThen_ok→aaX
open Go.Sem renaming run_bind→aa8, run_pure→aa9
open List renaming length_append→aav, getElem?_append_left→aaI, getElem?_eq_getElem→aaL, getElem?_eq_some_iff→aaM, eq_nil_of_length_eq_zero→aaN, length_cons→aaQ, getElem?_append_right→aaS, length_nil→aaT, size_toArray→aaU, append_assoc→aaV, getElem?_take→aaW, replicate→aaY, length_take→aaZ, length_drop→aa0, getElem?_toArray→abb, take_left'→abd, length_set→abe, mem_of_getElem?→abf, singleton_append→abi, mem_cons→abk, toList_toArray→abl
open Nat renaming eq_of_beq_eq_true→aal, le_refl→aaq, add_mul→aax, zero_add→aaK, mul_le_mul_right→aaR, le_mul_of_pos_right→aa2, zero_mul→aa5, le_trans→abc, sub_self→abm
open Ne renaming symm→abh
open Option.some renaming injEq→abp
namespace Go.Am
open Go
section fams
variable {E:Env} {R R':ai} {w w':World} {β β':Nat→Nat} {s s':St} {a a':Act} {o:Oper}
theorem wA {α:Type} {l r:List α} {i:Nat} {x:α} (h:nth r i=some x):nth (l++r) (l.length+i)=some x:=by
 rw [aN] at *;rw [aaS (Nat.le_add_right _ _),Nat.add_sub_cancel_left];exact h
theorem lH {α:Type} {l r:List α} {i:Nat} {x:α} (h:nth l i=some x):nth (l++r) i=some x:=by
 have:=aU h;rw [aN] at *;rw [aaI this];exact h
theorem aZ {α:Type} {l r:List α} {i:Nat} {x:α} (h:nth (l++r) i=some x):nth l i=some x∨∃ j,i=l.length+j∧nth r j=some x:=by
 rw [aN] at h;rcases Nat.lt_or_ge i l.length with bW|BM
 ·rw [aaI bW] at h;exact .inl (by rw [aN]; exact h)
 ·rw [aaS BM] at h;exact .inr ⟨i - l.length,by omega,by rw [aN]; exact h⟩
theorem aY.DH (h:aY E R w β s a) {id sz:Nat} {e:TypeId} {fs:List Nat} (hid:nth s.G id=some (.aX fs sz e)) {nfs:List Nat} {nts:List TR} (hl:nts.length=nfs.length)
  (dG:∀ j f t,nth nfs j=some f→nth nts j=some t→Ch R w sz e f t) (rq:∀ j f b c,nth nts j≠some (.tok f b c)) {ro:RO} (ba:nth R.obj id=some ro) :
  ∃ ts,ro=.aX ts∧ts.length=fs.length∧aY E (R.reset id (.aX (ts++nts))) w β (s.bq (ak s.G id (.aX (fs++nfs) sz e))) a∧Step R w β s.boxes (R.reset id (.aX (ts++nts))) w β s.boxes:=by
 have bl:=h.g.obj id _ _ hid ba;cases ro with
 |none=>exact bl.elim
 |a8=>exact bl.elim
 |bE _=>exact bl.elim
 |tok _ _ _ _=>exact bl.elim
 |aX ts=>
 obtain ⟨q1,q2,q3⟩:=bl;have lG:∀ b,RO.has (.aX (ts++nts)) b→RO.has (.aX ts) b:=fun b ⟨j,f,c,hj⟩=>by
  rcases aZ hj with hj|⟨i,_,hi⟩
  ·exact ⟨j,f,c,hj⟩
  ·exact absurd hi (rq i f b c)
 have ext:Ext R w (R.reset id (.aX (ts++nts))) w:=⟨fun _ _ h=>h,fun _ _ _=>rfl,fun i r hr=>by
  by_cases e:id=i
  ·subst e;rw [ba] at hr;cases hr;exact ⟨_,aj ba,fun j t hj=>⟨t,lH hj,iD.refl t⟩⟩
  ·exact ⟨r,by rw [ai.reset,aJ e]; exact hr,cj.refl r⟩,fb.refl w⟩
 have live:∀ b,Live (R.reset id (.aX (ts++nts))) b→Live R b:=fun b ⟨i,r,h1,h2⟩=>by
  rcases ar ba h1 with ⟨_,rfl⟩|⟨_,h1⟩
  ·exact ⟨id,_,ba,lG b h2⟩
  ·exact ⟨i,r,h1,h2⟩
 refine ⟨ts,rfl,q1,⟨⟨by simp [St.bq,ai.reset,h.g.len],fun i g r h1 h2=>?_,fun i j ri rj b h1 h2 b1 b2=>?_,h.g.wf,fun g cs hg=>(h.g.dF g cs hg).mono ext,h.g.lo⟩,h.b.keep ext (fun _ _ _=>rfl) (fun _ _ _ _ h=>h) (fun _ _ _ hl=>live _ hl),h.t.mono ext,h.n,h.d.mono ext⟩,?_⟩
 ·rcases ar ba h2 with ⟨rfl,rfl⟩|⟨cq,h2⟩
  ·simp only [St.bq] at h1;rw [aj hid] at h1;cases h1;refine ⟨by simp [q1,hl],fun i j f b c f' c' hi hj=>?_,fun j f t hf ht=>?_⟩
   ·rcases aZ hi with hi|⟨_,_,hi⟩
    ·rcases aZ hj with hj|⟨_,_,hj⟩
     ·exact q2 i j _ _ _ _ _ hi hj
     ·exact absurd hj (rq _ _ _ _)
    ·exact absurd hi (rq _ _ _ _)
   ·rcases aZ hf with vT|⟨k,hk,vT⟩
    ·rcases aZ ht with ht|⟨k',iZ,ht⟩
     ·exact q3 j f t vT ht
     ·have:=aU vT;omega
    ·rcases aZ ht with ht|⟨k',iZ,ht⟩
     ·have:=aU ht;omega
     ·have G9:k=k':=by omega
      subst G9;exact dG k f t vT ht
  ·simp only [St.bq] at h1;rw [aJ (abh cq)] at h1;exact (h.g.obj i g r h1 h2).mono ext (fun _ _=>rfl) (fun _ _ _ h=>h)
 ·rcases ar ba h1 with ⟨g3,e1⟩|⟨g3,g1⟩
  ·rcases ar ba h2 with ⟨g4,e2⟩|⟨g4,g2⟩
   ·omega
   ·rw [e1] at b1;exact g3.trans (h.g.inj id j _ _ b ba g2 (lG b b1) b2)
  ·rcases ar ba h2 with ⟨g4,e2⟩|⟨g4,g2⟩
   ·rw [e2] at b2;exact (h.g.inj i id _ _ b g1 ba b1 (lG b b2)).trans g4.symm
   ·exact h.g.inj i j ri rj b g1 g2 b1 b2
 ·refine ⟨ext,rfl,rfl,rfl,aaq _,fun _ _ _=>rfl,fun b _ ho=>?_,fun _ _ h _ _=>h⟩;rcases ho with ho|ho
  ·exact .inl (live b ho)
  ·exact .inr ho
theorem bQ.step {s1:St} {s2:St} (e:s1.boxes=s.boxes) (st:Step R w β s.boxes R' w β s.boxes) (h:bQ E R' w β s1 a o s2):bQ E R w β s a o s2:=by
 obtain ⟨nx,x,w',R2,β',h1,h2,h3,h4⟩:=h;rw [e] at h4;exact ⟨nx,x,w',R2,β',h1,h2,h3,st.trans h4⟩
theorem Yp {c:Bool} {α:Type} {a b:α} (h:(bif c then some a else none)=some b):c=true∧a=b:=by
 cases c
 ·cases h
 ·exact ⟨rfl,Option.some.inj h⟩
theorem mP {sz:Nat} {e:TypeId}:∀ {G:List GO} {i j:Nat},jW G sz e i=some j→∃ fs,nth G (j - i)=some (.aX fs sz e)∧i≤j
 |[],i,j,h=>by cases h
 |g :: G,i,j,h=>by
  have step:jW G sz e (i+1)=some j→∃ fs,nth (g :: G) (j - i)=some (.aX fs sz e)∧i≤j:=fun h=>by
   obtain ⟨fs,h1,h2⟩:=mP h;refine ⟨fs,?_,by omega⟩;rw [show j - i=(j - (i+1))+1 by omega];exact h1
  unfold jW at h;split at h
  ·rename_i jS;cases jS
  ·rename_i jS;obtain ⟨rfl,rfl⟩:=List.cons.inj jS;split at h
   ·rename_i j' hj;cases h;exact step hj
   ·obtain ⟨hc,rfl⟩:=Yp h
    ·rw [aas] at hc;have h1:=aal hc.1;have h2:=aal hc.2;subst h1 h2;exact ⟨_,by rw [abm]; rfl,aaq _⟩
  ·rename_i x G1 _ _ _ hn jS;obtain ⟨rfl,rfl⟩:=List.cons.inj jS;exact step h
theorem aY.Ja {s0:St} {d:Option Tmp} {x y:AV} (h:aY E R w β (s0.put d (.v x)) a) (hw:∀ c,Rel R w x c→Rel R w y c):aY E R w β (s0.put d (.v y)) a:=by
 cases d with
 |none=>exact h
 |some d=>
  simp only [St.put] at h ⊢;cases hb:Nat.blt d s0.n with
  |false=>rw [hb] at h; exact h
  |true=>
   rw [hb] at h;refine ⟨h.g,h.b,fun i hi=>?_,h.n,h.d⟩;by_cases e:d=i
   ·subst e;rw [aD];obtain ⟨c,k1,k2⟩:=h.t d (by rw [aD]; simp);rw [aD] at k2;exact ⟨c,k1,hw c k2⟩
   ·rw [aT e] at hi ⊢;have:=h.t i (by rw [aT e]; exact hi);rw [aT e] at this;exact this
theorem bQ.Ja {s0:St} {x y:AV} (h:bQ E R w β s a o (s0.put o.dst (.v x))) (hw:∀ R' w',Ext R w R' w'→∀ c,Rel R' w' x c→Rel R' w' y c):bQ E R w β s a o (s0.put o.dst (.v y)):=by
 obtain ⟨nx,v,w',R',β',h1,h2,h3,h4⟩:=h;refine ⟨nx,v,w',R',β',h1,h2,h3.Ja (hw R' w' h4.ext),?_⟩;rw [bf] at h4 ⊢;exact h4
end fams
section ops
variable {E:Env} {R:ai} {w:World} {β:Nat→Nat} {s:St} {a:Act} {o:Oper}
theorem fI {k:LK} {sz esz:Nat} {es:List AV} {c:Value} (h:Rel R w (.list k sz es) c) (eR:es=[]∨sz=esz) :
  gD esz es∧∃ vs,aL R w (an es) vs∧(∀ v∈vs,v.oneCell'=true)∧vs.length=es.length * esz ∧
   ((es=[]∧vs=[]∧∃ ad,c=.slice ad 0 0∧(ad=none∨k=.gQ))∨∃ b o' cap,c=.slice (some ⟨b,o',none⟩) es.length cap∧es.length≤cap∧Ds R k b o' es.length cap∧(∀ j v,vs[j]?=some v→w.cell? ((⟨b,o',none⟩:Addr).add j)=some v)∧iW R w b o' esz es):=by
 cases h with
 |jZ=>exact ⟨fun e he=>by simp at he,[],.nil,by simp,by simp,.inl ⟨rfl,rfl,_,rfl,.inl rfl⟩⟩
 |jN=>exact ⟨fun e he=>by simp at he,[],.nil,by simp,by simp,.inl ⟨rfl,rfl,_,rfl,.inl rfl⟩⟩
 |oG=>exact ⟨fun e he=>by simp at he,[],.nil,by simp,by simp,.inl ⟨rfl,rfl,_,rfl,.inr rfl⟩⟩
 |me=>exact ⟨fun e he=>by simp at he,[],.nil,by simp,by simp,.inl ⟨rfl,rfl,_,rfl,.inl rfl⟩⟩
 |mJ=>exact ⟨fun e he=>by simp at he,[],.nil,by simp,by simp,.inl ⟨rfl,rfl,_,rfl,.inl rfl⟩⟩
 | @list _ _ _ b o' len cap hr hlen fj G9=>
  subst hlen;have ky:iW R w b o' esz es:=by
   rcases eR with rfl|rfl
   ·exact .nil
   ·exact hr
  obtain ⟨g0,vs,g1,g2,g3,g4⟩:=zx ky;refine ⟨g0,vs,g1,g2,by rw [← g1.length,dH g0],.inr ⟨b,o',cap,rfl,fj,G9,fun j v hv=>?_,ky⟩⟩;rw [b9];exact g3 j v hv
theorem uF {b esz:Nat} {es:List AV} {vs:List Value} {w:World} {R:ai} (h0:gD esz es) (h:aL R w (an es) vs) (h1:∀ v∈vs,v.oneCell'=true)
  (hc:∀ j v,vs[j]?=some v→w.cell? ⟨b,j,none⟩=some v) (hI:∀ j,j < vs.length→R.I b j):iW R w b 0 esz es:=
 mB h0 (fN.make h h1 (fun j v hv=>by rw [aaK]; exact hc j v hv) (fun j hj=>by rw [aaK]; exact hI j (by rw [← h.length]; exact hj)))
theorem jw {sz:Nat} {l r:List AV} (h:gD sz l) (k:gD sz r):gD sz (l++r):=fun e he=>by
 rcases List.mem_append.1 he with he|he
 ·exact h e he
 ·exact k e he
theorem ic {l r:List Value} (h:∀ v∈l,v.oneCell'=true) (k:∀ v∈r,v.oneCell'=true):∀ v∈l++r,v.oneCell'=true:=fun v hv=>by
 rcases List.mem_append.1 hv with hv|hv
 ·exact h v hv
 ·exact k v hv
structure Uj (P:Program) (w:World) (t u ty e:TypeId) (i:TypeInfo) (z:Value) (cy:Value) (n:Nat) (us:List Value):Prop where
 zero:n=0→∀ base len cap,len≤cap→(aao #[t,u] ty #[.slice base len cap,cy]).run P w=.ok (.slice base len cap) w
 nil:0 < n→(n:Int)≤9223372036854775807→n * i.bytes≤281474976710656→(aao #[t,u] ty #[.slice none 0 0,cy]).run P w =
   .ok (.slice (some ⟨w.heap.size,0,none⟩) n (grownCap w n 0 e)) (w.drew.alloc (.cells (us.toArray++aap z.cells (grownCap w n 0 e - n)) e))
 grow:0 < n→∀ (b:Addr) (sLen fk:Nat) (tL:List Value),tL.length=sLen * i.size→(∀ j v,tL[j]?=some v→w.cell? (b.add j)=some v)→fk < sLen+n→((sLen+n:Nat):Int)≤9223372036854775807→Builtin.nextslicecap (sLen+n) fk * i.bytes≤281474976710656 →
   (aao #[t,u] ty #[.slice (some b) sLen fk,cy]).run P w=.ok (.slice (some ⟨w.heap.size,0,none⟩) (sLen+n) (grownCap w (sLen+n) fk e))
    (w.drew.alloc (.cells (tL.toArray++us.toArray++aap z.cells (grownCap w (sLen+n) fk e - (sLen+n))) e))
 room:0 < n→∀ (g k sLen fk:Nat) (cur:Array Value),w.heap[g]?=some (.cells cur e (0,0))→sLen+n≤fk→k+sLen * i.size+us.length≤cur.size →
   (aao #[t,u] ty #[.slice (some ⟨g,k,none⟩) sLen fk,cy]).run P w=.ok (.slice (some ⟨g,k,none⟩) (sLen+n) fk) (w.setRow g (cur.toList.take (k+sLen * i.size)++us++cur.toList.drop (k+sLen * i.size+us.length)).toArray)
theorem Uj.MB {P:Program} {w:World} {t u ty e:TypeId} {i:TypeInfo} {z:Value} {cy:Value} {n:Nat} {us:List Value} (h:Uj P w t u ty e i z cy n us) (hn:0 < n) (g sLen fk:Nat) (cur:Array Value) (h1:w.heap[g]?=some (.cells cur e (0,0))) (h2:sLen+n≤fk) (h3:sLen * i.size+us.length≤cur.size) :
  (aao #[t,u] ty #[.slice (some ⟨g,0,none⟩) sLen fk,cy]).run P w=.ok (.slice (some ⟨g,0,none⟩) (sLen+n) fk) (w.setRow g (cur.toList.take (sLen * i.size)++us++cur.toList.drop (sLen * i.size+us.length)).toArray):=by
 have:=h.room hn g 0 sLen fk cur h1 h2 (by omega);rw [aaK] at this;exact this
theorem fS {P:Program} (w:World) (t ty e:TypeId) (i:TypeInfo) (ht:P.underlying t=some (.slice e)) (hi:P.info? e=some i)
  (g k sLen fk:Nat) (cur:Array Value) (hg:w.heap[g]?=some (.cells cur e (0,0)))
  (a:Addr) (m c:Nat) (news:List Value) (hl:news.length=m * i.size) (zE:∀ j u,news[j]?=some u→w.cell? (a.add j)=some u) (h1:∀ u∈news,u.oneCell'=true)
  (dM:sLen+m≤fk) (nO:k+sLen * i.size+news.length≤cur.size) :
  (aao #[t,t] ty #[.slice (some ⟨g,k,none⟩) sLen fk,.slice (some a) m c]).run P w =
   .ok (.slice (some ⟨g,k,none⟩) (sLen+m) fk) (w.setRow g (cur.toList.take (k+sLen * i.size)++news++cur.toList.drop (k+sLen * i.size+news.length)).toArray):=by
 have hf:=run_firstCells_some (P:=P) w i.size m a m c news hl zE;have iP:=run_storeCells_at P g (k+sLen * i.size) e news 0 cur w hg (by simpa using nO) h1;simp only [Nat.add_zero] at iP;simp [aao,run_underlying ht,sizeOf,typeInfo,hi,aa3,dM,hf,Addr.add_lit,iP]
theorem ph {P:Program} (w:World) (t u ty e:TypeId) (i:TypeInfo) (ht:P.underlying t=some (.slice e)) (hu:P.underlying u=some .string) (hi:P.info? e=some i) (O2:i.size=1)
  (g k sLen fk:Nat) (cur:Array Value) (hg:w.heap[g]?=some (.cells cur e (0,0))) (s:ByteArray)
  (dM:sLen+s.size≤fk) (nO:k+sLen+s.size≤cur.size) :
  (aao #[t,u] ty #[.slice (some ⟨g,k,none⟩) sLen fk,.string s]).run P w =
   .ok (.slice (some ⟨g,k,none⟩) (sLen+s.size) fk) (w.setRow g (cur.toList.take (k+sLen)++aa7 s++cur.toList.drop (k+sLen+s.size)).toArray):=by
 have hf:=Lib.run_firstCells_string (P:=P) w 1 s;have iP:=run_storeCells_at P g (k+sLen) e (aa7 s) 0 cur w hg (by simpa [abg] using nO) (abj s);simp only [Nat.add_zero,abg] at iP;simp [aao,run_underlying ht,run_underlying hu,sizeOf,typeInfo,hi,O2,aa3,dM,hf,Addr.add_lit,iP]
theorem jh (h:aY E R w β s a) {t u:TypeId} {id f off sz len:Nat} {y:AV} {ys:List AV} {cx cy:Value} {us:List Value}
  (fT:∀ {c:Value} {w':World},(aao #[t,u] o.type #[cx,cy]).run E.P w=.ok c w'→(execOp a.eval o).run E.P w=.ok (.value c) w')
  {elem esz eb:Nat} {z:AV} (zF:1≤eb) (hz:z.cells.length=esz) (mg:z.aR=true)
  {ie:TypeInfo} (f2:ie.size=esz) (f3:ie.bytes=eb) (f6:gU ie=some z)
  (h0:Rel R w (.de id f off sz len) cx) (hA:∀ zc:Value,ie.zero=some zc→Uj E.P w t u o.type elem ie zc cy (y :: ys).length us)
  (y0:dX esz (y :: ys)) (y1:aL R w (an (y :: ys)) us) (y2:∀ v∈us,v.oneCell'=true) (y3:us.length=(y :: ys).length * esz)
  {es:List AV} (hid:nth s.G id=some (.cg es esz elem)) (hf:f=es.length) (ho0:off=0) (wj:len=f) (hb:(es.length+(y :: ys).length) * eb≤140737488355328) :
  bQ E R w β s a o ((s.bq (ak s.G id (.cg (es++(y :: ys)) esz elem))).put o.dst (.v (.de id (es.length+(y :: ys).length) 0 esz (es.length+(y :: ys).length)))):=by
 obtain ⟨zc,lF,BO⟩:=dK f6;have hA:=hA zc lF;obtain ⟨d1,d2⟩:=Rel.cells (BO R w) mg;have sQ:zc.cells.size=esz:=by rw [← hz,d1.length]; simp
 have mh:0 < (y :: ys).length:=by simp
 have hm:es.length+(y :: ys).length≤140737488355328:=abc (aa2 _ zF) hb;have uC:(es++(y :: ys)).length=es.length+(y :: ys).length:=aav
 -- where a new block has been made
 have fresh:∀ {xs:List Value} {old:Nat} {r0:RO},nth R.obj id=some r0→(∀ b c,cj r0 (.tok (es.length+(y :: ys).length) b c 0))→dX esz es→aL R w (an es) xs→(∀ v∈xs,v.oneCell'=true)→xs.length=es.length * esz →
   (aao #[t,u] o.type #[cx,cy]).run E.P w=.ok (.slice (some ⟨w.heap.size,0,none⟩) (es.length+(y :: ys).length) (grownCap w (es.length+(y :: ys).length) old elem)) (w.drew.alloc (.cells (xs.toArray++us.toArray++aap zc.cells (grownCap w (es.length+(y :: ys).length) old elem - (es.length+(y :: ys).length))) elem)) →
   bQ E R w β s a o ((s.bq (ak s.G id (.cg (es++(y :: ys)) esz elem))).put o.dst (.v (.de id (es.length+(y :: ys).length) 0 esz (es.length+(y :: ys).length)))):=by
  intro xs old r0 ba hle BG Uk v7 zG bp;have BM:=grownCap_ge w (es.length+(y :: ys).length) old elem;obtain ⟨r1,r2⟩:=h.Ui (cur:=xs.toArray++us.toArray++aap zc.cells (grownCap w (es.length+(y :: ys).length) old elem - (es.length+(y :: ys).length))) (vs:=xs++us) (es':=es++(y :: ys)) hid ba (by rw [uC]; exact hle) (by rw [uC]; exact BM) (grownCap_le_maxLen w _ old elem (by unfold maxLen; omega)) (by
   simp only [aba,aaU,size_zeroCells,sQ,zG,y3,← aax];congr 1;omega) (pg BG y0) (by rw [bZ]; exact Uk.append y1) (ic v7 y2) (by
   rw [uC];simp only [aa6];exact abd (by rw [aav,zG,y3,aax]))
  rw [uC] at r1 r2;refine ⟨_,_,_,_,β,fT bp,.inl rfl,r1.put o.dst ?_,by rw [bf]; exact r2⟩;exact Rel.de (aj ba) ⟨aaq _,fun _=>⟨rfl,aaK _,.inl (aa5 _).symm⟩⟩ BM
 cases h0 with
 | @jO _ _ ro ba hon=>
  have bl:=h.g.obj id _ _ hid ba;have he0:es=[]:=aaN hf.symm;subst he0;cases ro with
  |none=>exact bl.elim
  |bE _=>exact bl.elim
  |aX _=>exact bl.elim
  |tok f' g c k0=>
   obtain ⟨_,rfl,_⟩:=bl;simp [oF] at hon
  |a8=>
   simp only [aaT] at hb;have bp:=hA.nil mh (by omega) (by rw [f3]; rw [aaK] at hb; omega);exact fresh (xs:=[]) (old:=0) ba (fun b c=>by simp only [cj]; omega) (fun e he=>by simp at he) .nil (by simp) (by simp) (by simpa using bp)
 | @de _ _ _ _ _ cap b o' ro ba dG fj=>
  subst hf; subst ho0; subst wj;obtain ⟨b',c',cur,vs,rfl,g1,g2,g3,g4,g5,g6,g7,g8,g9⟩:=n9 h.g hid ba (fun k=>by subst k; exact dG);obtain ⟨rfl,Cu,qL⟩:=dG.2 rfl;rw [aaK] at Cu;subst Cu;have yM:vs.length=es.length * esz:=by rw [← g7.length,bM g1]
  have j8:∀ j v,vs[j]?=some v→cur[j]?=some v:=fun j v hj=>by
   rw [← g9,aaW] at hj;split at hj
   ·rw [← aaO]; exact hj
   ·cases hj
  by_cases dM:es.length+(y :: ys).length≤cap
  ·have rn:o'=0:=by
    rcases qL with qL|qL
    ·rw [qL,aa5]
    ·rw [aaQ] at dM; omega
   subst rn;have hle:(es.length+(y :: ys).length) * esz≤cap * esz:=aaR _ dM;have bp:=hA.MB mh b es.length cap cur g2 dM (by rw [f2,y3,← aax,g5]; exact hle);rw [f2] at bp;have iz:cur.toList.length=cap * esz:=by rw [show cur.toList.length=cur.size from aa1,g5]
   obtain ⟨r1,r2⟩:=h.PJ (cur2:=(cur.toList.take (es.length * esz)++us++cur.toList.drop (es.length * esz+us.length)).toArray) (vs:=vs++us) (es':=es++(y :: ys)) hid ba (by rw [uC]; omega) (by rw [uC]; exact dM) g2 (by
    rw [aaU,← aa1];simp only [aav,aaZ,aa0,y3,iz];rw [aax] at hle;omega) (pg g1 y0) (by rw [bZ]; exact g7.append y1) (ic g8 y2) (by
    rw [uC,abl,g9];exact abd (by rw [aav,yM,y3,aax]))
   rw [uC] at r1 r2;refine ⟨_,_,_,_,β,fT bp,.inl rfl,r1.put o.dst ?_,by rw [bf]; exact r2⟩;exact Rel.de (aj ba) ⟨aaq _,fun _=>⟨rfl,aaK _,.inl (aa5 _).symm⟩⟩ dM
  ·have bp:=hA.grow mh ⟨b,o',none⟩ es.length cap vs (by rw [yM,f2]) (fun j v hj=>by
    rw [b9];have GD:=(aaM.1 hj).1;have rn:o'=0:=by
     rcases qL with qL|qL
     ·rw [qL,aa5]
     ·have:es.length=0:=by omega
      rw [yM,this] at GD;omega
    subst rn;rw [aaK,cell_of_row w b j cur elem (0,0) g2];exact j8 j v hj) (by omega) (by omega) (growslice_fits (by omega) (by rw [f3]; exact hb))
   exact fresh (xs:=vs) (old:=cap) ba (fun b c=>⟨by omega,fun e=>by omega⟩) g1 g7 g8 yM bp
section rows
variable {E:Env} {R R':ai} {w w':World} {β:Nat→Nat} {s:St} {a:Act} {o:Oper}
theorem zm.mono {sz:Nat} {e:TypeId} {row:List AV} {t:TR} (h:zm R w sz e row t) (ex:Ext R w R' w') (hb:∀ f b c,t=.tok f b c→w'.heap[b]?=w.heap[b]?∧∀ o,R'.I b o→R.I b o):zm R' w' sz e row t:=by
 cases t with
 |a8=>exact h
 |full _=>exact h
 |tok f b c=>
  obtain ⟨h5,kr,cur,vs,k1,k2,k3,k4,k5,k6,k7,k8⟩:=h;obtain ⟨m1,m2⟩:=hb f b c rfl;exact ⟨h5,kr,cur,vs,m1.trans k1,k2,k3,k4,fun o ho=>k5 o (m2 o ho),k6.mono ex,k7,k8⟩
theorem aY.MC (h:aY E R w β s a) {rows:List (List AV)} {row':List AV} {elem:TypeId} {sz id j n b c:Nat} {ts:List TR} {t0:TR}
  (hg:nth s.G id=some (.gT rows sz elem)) (hid:nth R.obj id=some (.aX ts)) (hj:nth ts j=some t0)
  (hb:b=w.heap.size∨∃ f c0,t0=.tok f b c0)
  (e:Ext R w (R.reset id (.aX (ak ts j (.tok n b c)))) w')
  (old:∀ b',b'≠b→b' < w.heap.size→w'.heap[b']?=w.heap[b']?)
  (eR:w.heap.size≤w'.heap.size) (kz:zm (R.reset id (.aX (ak ts j (.tok n b c)))) w' sz elem row' (.tok n b c))
  (hd:E.lo≤w.drawn→E.lo≤w'.drawn) (os:w'.os=w.os) (tp:w'.tape=w.tape) (ou:w'.output=w.output) :
  aY E (R.reset id (.aX (ak ts j (.tok n b c)))) w' β (s.bq (ak s.G id (.gT (ak rows j row') sz elem))) a ∧
  Step R w β s.boxes (R.reset id (.aX (ak ts j (.tok n b c)))) w' β s.boxes:=by
 obtain ⟨m1,m2,m3⟩:=h.g.obj id _ _ hg hid;have bW:∀ x,RO.has (.aX ts) x→x < w.heap.size:=fun x hx=>h.g.bT ⟨id,_,hid,hx⟩
 have lG:∀ x,RO.has (.aX (ak ts j (.tok n b c))) x→x=b∨RO.has (.aX ts) x:=fun x ⟨j',f,c1,GD⟩=>by
  rcases b8 GD with ⟨_,hx,_⟩|⟨_,GD⟩
  ·cases hx; exact .inl rfl
  ·exact .inr ⟨j',f,c1,GD⟩
 have PK:b < w.heap.size→RO.has (.aX ts) b:=fun hl=>by
  rcases hb with hb|⟨f,c0,rfl⟩
  ·omega
  ·exact ⟨j,f,c0,hj⟩
 have live:∀ x,x < w.heap.size→Live (R.reset id (.aX (ak ts j (.tok n b c)))) x→Live R x:=fun x hx ⟨i,r,h1,h2⟩=>by
  rcases ar hid h1 with ⟨rfl,rfl⟩|⟨_,h1⟩
  ·rcases lG x h2 with rfl|h2
   ·exact ⟨i,_,hid,PK hx⟩
   ·exact ⟨i,_,hid,h2⟩
  ·exact ⟨i,r,h1,h2⟩
 have Ul:∀ i r x,nth R.obj i=some r→i≠id→r.has x→x≠b:=fun i r x hi cq hx e=>by
  subst e;have hl:=h.g.bT ⟨i,r,hi,hx⟩;exact cq (h.g.inj i id _ _ x hi hid hx (PK hl))
 have gk:∀ j' f x c1,nth ts j'=some (.tok f x c1)→j≠j'→x≠b:=fun j' f x c1 GD cq e=>by
  subst e;have hl:=bW x ⟨j',f,c1,GD⟩;rcases hb with hb|⟨f0,c0,rfl⟩
  ·omega
  ·exact cq (m2 _ _ _ _ _ _ _ hj GD)
 have zD:∀ k cs,dR s.boxes k=some cs→β k≠b:=fun k cs hk e=>by
  have hl:=h.ea (.inr ⟨k,cs,hk,rfl⟩);exact (h.b.box k cs hk).2.2 ⟨id,_,hid,by rw [e]; exact PK (e ▸ hl)⟩
 refine ⟨⟨⟨by simp [St.bq,ai.reset,h.g.len],fun i gg r oI h2=>?_,fun i j' ri rj x oI h2 b1 b2=>?_,fun b o hi=>Nat.lt_of_lt_of_le (h.g.wf b o hi) eR,fun g cs hg=>(h.g.dF g cs hg).mono e,hd h.g.lo⟩,?_,h.t.mono e,h.n,h.d.mono e⟩,?_⟩
 ·rcases ar hid h2 with ⟨rfl,rfl⟩|⟨cq,h2⟩
  ·simp only [St.bq] at oI;rw [aj hg] at oI;cases oI;refine ⟨by rw [cw,cw]; exact m1,fun i1 i2 f1 b1 c1 f2 c2 h1 h2=>?_,fun j' row t ky mC=>?_⟩
   ·rcases b8 h1 with ⟨q1,q2,_⟩|⟨q1,q2⟩
    ·rcases b8 h2 with ⟨p1,p2,_⟩|⟨p1,p2⟩
     ·omega
     ·cases q2;exact absurd rfl (gk _ _ _ _ p2 p1)
    ·rcases b8 h2 with ⟨p1,p2,_⟩|⟨p1,p2⟩
     ·cases p2;exact absurd rfl (gk _ _ _ _ q2 q1)
     ·exact m2 _ _ _ _ _ _ _ q2 p2
   ·rcases b8 mC with ⟨q1,q2,_⟩|⟨q1,q2⟩
    ·subst q1; subst q2;rcases b8 ky with ⟨_,p2,_⟩|⟨p1,_⟩
     ·subst p2; exact kz
     ·exact absurd rfl p1
    ·rcases b8 ky with ⟨p1,_,_⟩|⟨_,p2⟩
     ·exact absurd p1 q1
     ·exact (m3 j' row t p2 q2).mono e fun f b1 c1 ht=>⟨old b1 (gk j' f b1 c1 (ht ▸ q2) q1) (bW b1 ⟨j',f,c1,ht ▸ q2⟩),fun _ ho=>ho⟩
  ·simp only [St.bq] at oI;rw [aJ (abh cq)] at oI;exact (h.g.obj i gg r oI h2).mono e (fun x hx=>old x (Ul i r x h2 cq hx) (h.g.bT ⟨i,r,h2,hx⟩)) (fun b o _ hi=>hi)
 ·rcases ar hid oI with ⟨g3,e1⟩|⟨g3,g1⟩
  ·rcases ar hid h2 with ⟨g4,e2⟩|⟨g4,g2⟩
   ·omega
   ·rw [e1] at b1;rcases lG x b1 with rfl|b1
    ·exact absurd rfl (Ul j' rj x g2 g4 b2)
    ·exact g3.trans (h.g.inj id j' _ _ x hid g2 b1 b2)
  ·rcases ar hid h2 with ⟨g4,e2⟩|⟨g4,g2⟩
   ·rw [e2] at b2;rcases lG x b2 with rfl|b2
    ·exact absurd rfl (Ul i ri x g1 g3 b1)
    ·exact (h.g.inj i id _ _ x g1 hid b1 b2).trans g4.symm
   ·exact h.g.inj i j' ri rj x g1 g2 b1 b2
 ·exact h.b.keep e (fun k cs hk=>old _ (zD k cs hk) (h.ea (.inr ⟨k,cs,hk,rfl⟩))) (fun k cs o hk hi=>hi) (fun k cs hk hl=>live _ (h.ea (.inr ⟨k,cs,hk,rfl⟩)) hl)
 ·refine ⟨e,os,tp,ou,eR,fun x hx hn=>old x (fun e=>hn (.inl ⟨id,_,hid,by rw [e]; exact PK (e ▸ hx)⟩)) hx,fun x hx ho=>?_,fun b o hi hb _=>hi⟩;rcases ho with ho|ho
  ·exact .inl (live x hx ho)
  ·exact .inr ho
theorem mD {id:Nat} {r0 r1:RO} (hid:nth R.obj id=some r0) (hle:cj r0 r1) (h:Ext R w R w'):Ext R w (R.reset id r1) w':=by
 refine ⟨fun _ _ h=>h,h.cell,fun i r hr=>?_,h.lp⟩;by_cases ei:id=i
 ·subst ei;rw [hid] at hr;cases hr;exact ⟨_,aj hid,hle⟩
 ·exact ⟨r,by rw [ai.reset,aJ ei]; exact hr,cj.refl r⟩
theorem Cv {ts:List TR} {j:Nat} {t0 t1:TR} (hj:nth ts j=some t0) (hle:iD t0 t1):uu ts (ak ts j t1):=fun i t hi=>by
 by_cases e:j=i
 ·subst e;rw [hj] at hi;cases hi;exact ⟨t1,aj hj,hle⟩
 ·exact ⟨t,by rw [aJ e]; exact hi,iD.refl t⟩
theorem yn (h:aY E R w β s a) {t u:TypeId} {id j sz len:Nat} {y:AV} {ys:List AV} {cx cy:Value} {us:List Value}
  (fT:∀ {c:Value} {w':World},(aao #[t,u] o.type #[cx,cy]).run E.P w=.ok c w'→(execOp a.eval o).run E.P w=.ok (.value c) w')
  {elem esz eb:Nat} {z:AV} (zF:1≤eb) (hz:z.cells.length=esz) (mg:z.aR=true)
  {ie:TypeInfo} (f2:ie.size=esz) (f3:ie.bytes=eb) (f6:gU ie=some z)
  (h0:Rel R w (.eX id j sz len) cx) (hA:∀ zc:Value,ie.zero=some zc→Uj E.P w t u o.type elem ie zc cy (y :: ys).length us)
  (y0:gD esz (y :: ys)) (y1:aL R w (an (y :: ys)) us) (y2:∀ v∈us,v.oneCell'=true) (y3:us.length=(y :: ys).length * esz)
  {rows:List (List AV)} (hid:nth s.G id=some (.gT rows esz elem)) (Um:j < rows.length) (wj:len=(rowOf rows j).length) (hb:((rowOf rows j).length+(y :: ys).length) * eb≤140737488355328) :
  bQ E R w β s a o ((s.bq (ak s.G id (.gT (ak rows j (rowOf rows j++(y :: ys))) esz elem))).put o.dst (.v (.eX id j esz (len+(y :: ys).length)))):=by
 subst wj;obtain ⟨zc,lF,BO⟩:=dK f6;have hA:=hA zc lF;obtain ⟨d1,d2⟩:=Rel.cells (BO R w) mg;have sQ:zc.cells.size=esz:=by rw [← hz,d1.length]; simp
 have mh:0 < (y :: ys).length:=by simp
 have hm:(rowOf rows j).length+(y :: ys).length≤140737488355328:=abc (aa2 _ zF) hb;obtain ⟨ro,ba⟩:∃ ro,nth R.obj id=some ro:=by
  have:=aU hid;rw [← h.g.len] at this;exact ⟨R.obj[id],by rw [aN]; exact aaL this⟩
 have bl:=h.g.obj id _ _ hid ba;cases ro with
 |none=>exact bl.elim
 |a8=>exact bl.elim
 |bE _=>exact bl.elim
 |tok _ _ _ _=>exact bl.elim
 |aX ts=>
 obtain ⟨m1,m2,m3⟩:=bl;obtain ⟨t0,SD⟩:∃ t0,nth ts j=some t0:=⟨ts[j],by rw [aN]; exact aaL (by omega)⟩;have kz:nth rows j=some (rowOf rows j):=by
  have:nth rows j=some rows[j]:=by rw [aN]; exact aaL Um
  unfold rowOf;rw [this]
 have hra:=m3 j _ _ kz SD;have uC:(rowOf rows j++(y :: ys)).length=(rowOf rows j).length+(y :: ys).length:=aav;generalize rowOf rows j=es at *
 -- where a new block has been made
 have fresh:∀ {xs:List Value} {old:Nat},(∀ b c,iD t0 (.tok (es.length+(y :: ys).length) b c))→gD esz es→aL R w (an es) xs→(∀ v∈xs,v.oneCell'=true)→xs.length=es.length * esz →
   (aao #[t,u] o.type #[cx,cy]).run E.P w=.ok (.slice (some ⟨w.heap.size,0,none⟩) (es.length+(y :: ys).length) (grownCap w (es.length+(y :: ys).length) old elem)) (w.drew.alloc (.cells (xs.toArray++us.toArray++aap zc.cells (grownCap w (es.length+(y :: ys).length) old elem - (es.length+(y :: ys).length))) elem)) →
   bQ E R w β s a o ((s.bq (ak s.G id (.gT (ak rows j (es++(y :: ys))) esz elem))).put o.dst (.v (.eX id j esz (es.length+(y :: ys).length)))):=by
  intro xs old hle BG Uk v7 zG bp;have BM:=grownCap_ge w (es.length+(y :: ys).length) old elem;have e:=mD (r1:=.aX (ak ts j (.tok (es.length+(y :: ys).length) w.heap.size (grownCap w (es.length+(y :: ys).length) old elem)))) ba (Cv SD (hle _ _)) (show Ext R w R (w.drew.alloc (.cells (xs.toArray++us.toArray++aap zc.cells (grownCap w (es.length+(y :: ys).length) old elem - (es.length+(y :: ys).length))) elem)) from
   ⟨fun _ _ h=>h,fun b o hi=>bL (heap_alloc_old w.drew _ b (h.g.wf b o hi)) o,fun i r hr=>⟨r,hr,cj.refl r⟩,.old fun b hb=>heap_alloc_old w.drew _ b hb⟩)
  obtain ⟨r1,r2⟩:=h.MC (row':=es++(y :: ys)) hid ba SD (.inl rfl) e (fun b _ hb=>heap_alloc_old w.drew _ b hb) (by simp) ⟨uC.symm,jw BG y0,_,xs++us,heap_alloc_new w.drew _,BM,grownCap_le_maxLen w _ old elem (by unfold maxLen; omega),by
   simp only [aba,aaU,size_zeroCells,sQ,zG,y3,← aax];congr 1;omega,fun o hi=>by have:=h.g.wf _ _ hi; omega,by rw [bZ]; exact (Uk.append y1).mono e,ic v7 y2,by
   simp only [aa6];exact abd (by rw [aav,zG,y3,aax])⟩ (fun h=>Nat.le_succ_of_le h) rfl rfl rfl
  refine ⟨_,_,_,_,β,fT bp,.inl rfl,r1.put o.dst ?_,by rw [bf]; exact r2⟩;exact Rel.eX (aj ba) ⟨_,aj SD,aaq _,fun _=>⟨rfl,.inl rfl,rfl⟩⟩ BM
 generalize hlen:es.length=len at h0;cases h0 with
 |tF Ky hon=>
  have he0:es=[]:=aaN hlen;subst he0;simp only [aaT] at hb;have bp:=hA.nil mh (by omega) (by rw [f3]; rw [aaK] at hb; omega);refine fresh (xs:=[]) (old:=0) (fun b c=>?_) (fun e he=>by simp at he) .nil (by simp) (by simp) (by simpa using bp);cases t0 with
  |a8=>simp only [iD]; simp
  |full _=>exact hra.elim
  |tok f b1 c1=>
   have:=hra.1;simp only [iD,aaT,aaQ] at *;exact ⟨by omega,fun e=>by omega⟩
 | @eX _ _ _ _ cap b o' jR Ky dG fj=>
  rw [ba] at Ky;cases Ky;obtain ⟨t1,q1,q2⟩:=dG;rw [SD] at q1;cases q1;subst hlen;cases t0 with
  |a8=>exact q2.elim
  |full _=>exact hra.elim
  |tok f b1 c1=>
  obtain ⟨g0,BF,cur,vs,g2,g3,g4,g5,g6,g7,g8,g9⟩:=hra;obtain ⟨rfl,qL,rfl⟩:=q2.2 g0.symm;subst g0;have g1:=BF.g;have yM:vs.length=es.length * esz:=by rw [← g7.length,bM g1]
  have j8:∀ j v,vs[j]?=some v→cur[j]?=some v:=fun j v hj=>by
   rw [← g9,aaW] at hj;split at hj
   ·rw [← aaO]; exact hj
   ·cases hj
  by_cases dM:es.length+(y :: ys).length≤cap
  ·have rn:o'=0:=by
    rcases qL with qL|qL
    ·exact qL
    ·rw [aaQ] at dM; omega
   subst rn;have hle:(es.length+(y :: ys).length) * esz≤cap * esz:=aaR _ dM;have bp:=hA.MB mh b es.length cap cur g2 dM (by rw [f2,y3,← aax,g5]; exact hle);rw [f2] at bp;have iz:cur.toList.length=cap * esz:=by rw [show cur.toList.length=cur.size from aa1,g5]
   have e:=mD (r1:=.aX (ak ts j (.tok (es.length+(y :: ys).length) b cap))) ba (Cv SD ⟨by omega,fun _=>⟨rfl,rfl⟩⟩) (jo (R:=R) (w:=w) g6 (cur.toList.take (es.length * esz)++us++cur.toList.drop (es.length * esz+us.length)).toArray);obtain ⟨r1,r2⟩:=h.MC (row':=es++(y :: ys)) hid ba SD (.inr ⟨_,_,rfl⟩) e (fun b' cq _=>setRow_other w _ b' _ cq) (by simp) ⟨uC.symm,jw BF y0,_,vs++us,setRow_heap w _ _ _ _ (0,0) g2,dM,g4,by
    rw [aaU];simp only [aav,aaZ,aa0,y3,iz];rw [aax] at hle;omega,g6,by rw [bZ]; exact (g7.append y1).mono e,ic g8 y2,by
    rw [abl,g9];exact abd (by rw [aav,yM,y3,aax])⟩ (fun h=>h) rfl rfl rfl
   refine ⟨_,_,_,_,β,fT bp,.inl rfl,r1.put o.dst ?_,by rw [bf]; exact r2⟩;exact Rel.eX (aj ba) ⟨_,aj SD,aaq _,fun _=>⟨rfl,.inl rfl,rfl⟩⟩ dM
  ·have bp:=hA.grow mh ⟨b,o',none⟩ es.length cap vs (by rw [yM,f2]) (fun j v hj=>by
    have GD:=(aaM.1 hj).1;have rn:o'=0:=by
     rcases qL with qL|qL
     ·exact qL
     ·have:es.length=0:=by omega
      rw [yM,this] at GD;omega
    subst rn;rw [b9,aaK,cell_of_row w b j cur elem (0,0) g2];exact j8 j v hj) (by omega) (by omega) (growslice_fits (by omega) (by rw [f3]; exact hb))
   exact fresh (xs:=vs) (old:=cap) (fun b c=>⟨by omega,fun e=>by rw [aaQ] at e; omega⟩) BF g7 g8 yM bp
end rows
theorem pj (h:aY E R w β s a) {t u:TypeId} {id j:Nat} {es:List AV} {y:AV} {ys:List AV} {cx cy:Value} {us:List Value}
  (fT:∀ {c:Value} {w':World},(aao #[t,u] o.type #[cx,cy]).run E.P w=.ok c w'→(execOp a.eval o).run E.P w=.ok (.value c) w')
  {elem esz eb:Nat} {z:AV} (zF:1≤eb) (hz:z.cells.length=esz) (mg:z.aR=true)
  {ie:TypeInfo} (f2:ie.size=esz) (f3:ie.bytes=eb) (f6:gU ie=some z)
  (h0:Rel R w (.list (.aX id j) esz es) cx) (hA:∀ zc:Value,ie.zero=some zc→Uj E.P w t u o.type elem ie zc cy (y :: ys).length us)
  (y0:gD esz (y :: ys)) (y1:aL R w (an (y :: ys)) us) (y2:∀ v∈us,v.oneCell'=true) (y3:us.length=(y :: ys).length * esz)
  {fs:List Nat} (ia:nth s.G id=some (.aX fs esz elem)) (wB:nth fs j=some es.length) (hb:(es.length+(y :: ys).length) * eb≤140737488355328) :
  bQ E R w β s a o ((s.bq (ak s.G id (.aX (ak fs j (es.length+(y :: ys).length)) esz elem))).put o.dst (.v (.list (.aX id j) esz (es++(y :: ys))))):=by
 obtain ⟨zc,lF,BO⟩:=dK f6;have hA:=hA zc lF;obtain ⟨d1,d2⟩:=Rel.cells (BO R w) mg;have sQ:zc.cells.size=esz:=by rw [← hz,d1.length]; simp
 have mh:0 < (y :: ys).length:=by simp
 have hm:es.length+(y :: ys).length≤140737488355328:=abc (aa2 _ zF) hb;obtain ⟨x0,xs,x1,x2,x3,x4⟩:=fI (esz:=esz) h0 (.inr rfl);obtain ⟨ro,ba⟩:∃ ro,nth R.obj id=some ro:=by
  cases h0 with
  |mJ q _=>exact ⟨_,q⟩
  |list _ _ _ hk=>obtain ⟨ro,q,_⟩:=hk; exact ⟨ro,q⟩
 have bl:=h.g.obj id _ _ ia ba;cases ro with
 |none=>exact bl.elim
 |a8=>exact bl.elim
 |bE _=>exact bl.elim
 |tok _ _ _ _=>exact bl.elim
 |aX ts=>
 have bl:zl R w esz elem fs ts:=bl;have Um:j < ts.length:=by rw [bl.1]; exact aU wB
 obtain ⟨tr,ht⟩:∃ tr,nth ts j=some tr:=⟨ts[j],by rw [aN]; exact aaL Um⟩;have qA:=bl.2.2 j _ _ wB ht;have EZ:∀ i f b c,nth ts i=some (.tok f b c)→b < w.heap.size:=fun i f b c hi=>h.g.bT ⟨id,_,ba,i,f,c,hi⟩
 -- where a new block has been made
 have fresh:∀ {old:Nat},(∀ b c,iD tr (.tok (es.length+(y :: ys).length) b c)) →
   (aao #[t,u] o.type #[cx,cy]).run E.P w=.ok (.slice (some ⟨w.heap.size,0,none⟩) (es.length+(y :: ys).length) (grownCap w (es.length+(y :: ys).length) old elem)) (w.drew.alloc (.cells (xs.toArray++us.toArray++aap zc.cells (grownCap w (es.length+(y :: ys).length) old elem - (es.length+(y :: ys).length))) elem)) →
   bQ E R w β s a o ((s.bq (ak s.G id (.aX (ak fs j (es.length+(y :: ys).length)) esz elem))).put o.dst (.v (.list (.aX id j) esz (es++(y :: ys))))):=by
  intro old hle bp;have BM:=grownCap_ge w (es.length+(y :: ys).length) old elem;have hcm:=grownCap_le_maxLen w (es.length+(y :: ys).length) old elem (by unfold maxLen; omega);have SE:(xs.toArray++us.toArray++aap zc.cells (grownCap w (es.length+(y :: ys).length) old elem - (es.length+(y :: ys).length))).size=grownCap w (es.length+(y :: ys).length) old elem * esz:=by
   simp only [aba,aaU,size_zeroCells,sQ,x3,y3,← aax];congr 1;omega
  generalize kA:xs.toArray++us.toArray++aap zc.cells (grownCap w (es.length+(y :: ys).length) old elem - (es.length+(y :: ys).length))=cur at bp SE;have o1:=One.drew w (.cells cur elem);obtain ⟨r1,r2⟩:=h.Uc o1 (n:=(es.length+(y :: ys).length) * esz) (r1:=.aX (ak ts j (.tok (es.length+(y :: ys).length) w.heap.size (grownCap w (es.length+(y :: ys).length) old elem)))) (go:=.aX (ak fs j (es.length+(y :: ys).length)) esz elem) ia ba
   (uu.set ht (hle _ _)) (fun b hb=>I4 hb) (zl.set bl ⟨rfl,cur,o1.new,BM,hcm,SE,fun o' rn hi=>by
    rcases hi with hi|⟨_,hi⟩
    ·have:=h.g.wf _ _ hi;omega
    ·omega⟩ (fun i f c hi=>absurd (EZ i f _ c hi) (Nat.lt_irrefl _)) (fun i f b c _ hi=>⟨o1.old b (EZ i f b c hi),fun o' rn=>by
     rcases rn with rn|⟨rn,_⟩
     ·exact rn
     ·have:=EZ i f b c hi;omega⟩))
  have e:=r2.ext;refine ⟨_,_,_,_,β,fT bp,.inl rfl,r1.put o.dst ?_,by rw [bf]; exact r2⟩;refine Rel.list (uF (vs:=xs++us) (jw x0 y0) (by rw [bZ]; exact (x1.mono e).append (y1.mono e)) (ic x2 y2) (fun j v hj=>?_) (fun j hj=>.inr ⟨rfl,by rw [aav,x3,y3,← aax] at hj; exact hj⟩)) (by simp) BM ⟨_,aj ba,_,aj ht,aaq _,fun _=>⟨rfl,.inl rfl,rfl⟩⟩;rw [cell_of_row _ _ j _ _ _ o1.new,← kA];have bW:=(aaM.1 hj).1;rw [← aaO];simp only [aa6,aaV];rw [← aaV,aaI bW];exact hj
 rcases x4 with ⟨rfl,rfl,ad,rfl,hd⟩|⟨b,o',cap,rfl,PL,xk,qB,xE⟩
 ·obtain rfl:ad=none:=by
   rcases hd with hd|hd
   ·exact hd
   ·cases hd
  simp only [aaT] at hb qA;have bp:=hA.nil mh (by simp only [aaT] at hm; omega) (by rw [f3]; rw [aaK] at hb; omega);cases tr with
  |a8=>exact fresh (old:=0) (fun b c=>by simp only [iD,aaQ]; omega) (by simpa using bp)
  |full f'=>
   have qA:f'=0:=qA;subst qA;exact fresh (old:=0) (fun b c=>by simp only [iD,aaQ]; omega) (by simpa using bp)
  |tok f' g c=>
   obtain ⟨qA,_⟩:=qA;subst qA;exact fresh (old:=0) (fun b c=>by simp only [iD,aaQ,aaT]; omega) (by simpa using bp)
 ·obtain ⟨jR,Ky,xq⟩:=xk;rw [ba] at Ky;cases Ky;obtain ⟨t',q3,xq⟩:=xq;rw [ht] at q3;cases q3;cases tr with
  |a8=>exact xq.elim
  |full f'=>
   have hf:f'=es.length:=qA;subst hf;have fj:=xq.2 rfl;subst fj;have bp:=hA.grow mh ⟨b,o',none⟩ es.length es.length xs (by rw [x3,f2]) qB (by omega) (by omega) (growslice_fits (by omega) (by rw [f3]; exact hb));exact fresh (fun b c=>by simp only [iD]; omega) bp
  |tok f' g c=>
   obtain ⟨rfl,cur,kA,k1,k3,k4,k5⟩:=qA;obtain ⟨rfl,qL,rfl⟩:=xq.2 rfl;by_cases dM:es.length+(y :: ys).length≤cap
   ·have ho0:o'=0:=by
     rcases qL with qL|qL
     ·exact qL
     ·rw [aaQ] at dM; omega
    subst ho0;have hle:(es.length+(y :: ys).length) * esz≤cap * esz:=aaR _ dM;have bp:=hA.MB mh b es.length cap cur kA dM (by rw [f2,y3,← aax,k4]; exact hle);rw [f2] at bp;generalize MD:(cur.toList.take (es.length * esz)++us++cur.toList.drop (es.length * esz+us.length)).toArray=cur2 at bp;have iz:cur.toList.length=cap * esz:=by rw [show cur.toList.length=cur.size from aa1,k4]
    have hll:es.length * esz≤cap * esz:=aaR _ k1;have BR:cur2.size=cap * esz:=by
     rw [← MD,aaU];simp only [aav,aaZ,aa0,y3,iz];rw [aax] at hle;omega
    have zA:∀ o',R.I b o'→cur2[o']?=cur[o']?:=fun o' hi=>by
     have ho:o' < es.length * esz:=Nat.lt_of_not_le fun hle=>k5 o' hle hi
     rw [← MD,aaV];simp only [abb];rw [aaI (by rw [aaZ]; omega),aaW,if_pos ho,aaO]
    have new:(w.setRow b cur2).heap[b]?=some (.cells cur2 elem (0,0)):=setRow_heap w b cur cur2 elem (0,0) kA;obtain ⟨r0,r1,r2⟩:=h.PG (cur2:=cur2) (n:=(es.length+(y :: ys).length) * esz) (r1:=.aX (ak ts j (.tok (es.length+(y :: ys).length) b cap))) (go:=.aX (ak fs j (es.length+(y :: ys).length)) esz elem) ia ba ⟨j,_,_,ht⟩
     (uu.set ht ⟨by omega,fun e=>by omega⟩) (fun b' kX=>(I4 kX).elim (fun e=>by rw [e]; exact ⟨j,_,_,ht⟩) (fun x=>x)) kA zA (fun _=>zl.set bl ⟨rfl,cur2,new,dM,k3,BR,fun o' rn hi=>by
      rcases hi with hi|⟨_,hi⟩
      ·exact k5 o' (abc (aaR _ (Nat.le_add_right _ _)) rn) hi
      ·omega⟩ (fun i f c hi=>bl.2.1 i j _ _ _ _ _ hi ht) (fun i f b' c cq hi=>by
       have Mi:b'≠b:=fun e=>by subst e; exact cq (bl.2.1 i j _ _ _ _ _ hi ht)
       refine ⟨setRow_other w b b' cur2 Mi,fun o' rn=>?_⟩;rcases rn with rn|⟨rn,_⟩
       ·exact rn
       ·exact absurd rn Mi))
    refine ⟨_,_,_,_,β,fT bp,.inl rfl,r1.put o.dst ?_,by rw [bf]; exact r2⟩;have hxs:cur.toList.take (es.length * esz)=xs:=by
     have Kz:xs.length=es.length * esz:=x3;apply List.ext_getElem?;intro j;rw [aaW];split
     ·rename_i hj;have GD:j < xs.length:=by omega
      have yg:=qB j xs[j] (aaL GD);rw [b9,aaK,cell_of_row w b j cur elem (0,0) kA] at yg;rw [aaO,yg,aaL GD]
     ·rw [List.getElem?_eq_none (by omega)]
    refine Rel.list (uF (vs:=xs++us) (jw x0 y0) (by rw [bZ]; exact (x1.mono r0).append (y1.mono r0)) (ic x2 y2) (fun j v hj=>?_) (fun j hj=>.inr ⟨rfl,by rw [aav,x3,y3,← aax] at hj; exact hj⟩)) (by simp) dM ⟨_,aj ba,_,aj ht,aaq _,fun _=>⟨rfl,.inl rfl,rfl⟩⟩;rw [cell_of_row _ _ j _ _ _ new,← MD,hxs];simp only [abb];rw [aaI (aaM.1 hj).1];exact hj
   ·have bp:=hA.grow mh ⟨b,o',none⟩ es.length cap xs (by rw [x3,f2]) qB (by omega) (by omega) (growslice_fits (by omega) (by rw [f3]; exact hb));exact fresh (fun b c=>⟨by omega,fun e=>by omega⟩) bp
theorem yo (h:aY E R w β s a) {t u:TypeId} {id j:Nat} {es:List AV} {y:AV} {ys:List AV} {cx cy:Value} {us:List Value}
  (fT:∀ {c:Value} {w':World},(aao #[t,u] o.type #[cx,cy]).run E.P w=.ok c w'→(execOp a.eval o).run E.P w=.ok (.value c) w')
  {elem esz eb:Nat} {z:AV} (zF:1≤eb) (hz:z.cells.length=esz) (mg:z.aR=true)
  {ie:TypeInfo} (f2:ie.size=esz) (f3:ie.bytes=eb) (f6:gU ie=some z)
  (h0:Rel R w (.list (.aX id j) esz es) cx) (hA:∀ zc:Value,ie.zero=some zc→Uj E.P w t u o.type elem ie zc cy (y :: ys).length us)
  (y0:gD esz (y :: ys)) (y1:aL R w (an (y :: ys)) us) (y2:∀ v∈us,v.oneCell'=true) (y3:us.length=(y :: ys).length * esz)
  {fs:List Nat} (ia:nth s.G id=some (.aX fs esz elem)) (wB:Pn fs j es.length=true) (hb:(es.length+(y :: ys).length) * eb≤140737488355328) :
  bQ E R w β s a o ((s.bq (ak s.G id (.aX (Kg fs j (es.length+(y :: ys).length)) esz elem))).put o.dst (.v (.list (.aX id j) esz (es++(y :: ys))))):=by
 unfold Pn at wB;rw [Bool.or_eq_true,decide_eq_true_eq,aas] at wB;rcases wB with wB|⟨hj,hl⟩
 ·have cq:Nat.beq j fs.length=false:=by
   cases hb:Nat.beq j fs.length with
   |false=>rfl
   |true=>
    have:=aal hb;have:=aU wB;omega
  unfold Kg;rw [cq];exact pj h fT zF hz mg f2 f3 f6 h0 hA y0 y1 y2 y3 ia wB hb
 ·have zH:Kg fs j (es.length+(y :: ys).length)=fs++[es.length+(y :: ys).length]:=by
   unfold Kg;rw [hj];rfl
  rw [zH];have hj:=aal hj;have hl:=aal hl;subst hj;have bW:=aU ia;rw [← h.g.len] at bW;obtain ⟨ro,ba⟩:∃ ro,nth R.obj id=some ro:=⟨R.obj[id],by rw [aN]; exact aaL bW⟩;obtain ⟨ts,rfl,z1,z2,z3⟩:=h.DH ia (nfs:=[0]) (nts:=[.a8]) rfl (fun j f t h1 h2=>by
   cases j with
   |zero=>simp only [nth] at h1 h2; cases h1; cases h2; exact rfl
   |succ j=>simp [nth] at h1) (fun j f b c hj=>by
   cases j with
   |zero=>simp only [nth] at hj; cases hj
   |succ j=>simp [nth] at hj) ba
  have key:=pj z2 fT zF hz mg f2 f3 f6 (h0.mono z3.ext) hA y0 (y1.mono z3.ext) y2 y3 (fs:=fs++[0]) (aj ia) (by rw [hl]; exact bS _ _) hb;have e1:ak (fs++[0]) fs.length (es.length+(y :: ys).length)=fs++[es.length+(y :: ys).length]:=by
   rw [dV,List.set_append_right _ _ (aaq _),abm];rfl
  have e2:∀ x y:GO,ak (ak s.G id x) id y=ak s.G id y:=fun x y=>by rw [dV,dV,dV,List.set_set]
  rw [e1] at key;refine bQ.step rfl z3 ?_;have e3:((s.bq (ak s.G id (.aX (fs++[0]) esz elem))).bq (ak (s.bq (ak s.G id (.aX (fs++[0]) esz elem))).G id (.aX (fs++[es.length+(y :: ys).length]) esz elem)))=s.bq (ak s.G id (.aX (fs++[es.length+(y :: ys).length]) esz elem)):=by
   simp only [St.bq,e2]
  rw [e3] at key;exact key
theorem kB (h:aY E R w β s a) {t u:TypeId} {x:AV} {ys:List AV} {cx cy:Value} {us:List Value}
  (fT:∀ {c:Value} {w':World},(aao #[t,u] o.type #[cx,cy]).run E.P w=.ok c w'→(execOp a.eval o).run E.P w=.ok (.value c) w')
  {i:TI} {elem esz eb:Nat} {ag:Bool} {z:AV} (hk:i.k=.sl elem esz ag eb (some z)) (zF:1≤eb) (hz:z.cells.length=esz) (mg:z.aR=true)
  {ie:TypeInfo} (f1:E.P.info? elem=some ie) (f2:ie.size=esz) (f3:ie.bytes=eb) (f6:gU ie=some z)
  (h0:Rel R w x cx) (hA:∀ zc:Value,ie.zero=some zc→Uj E.P w t u o.type elem ie zc cy ys.length us)
  (y0:gD esz ys) (y1:aL R w (an ys) us) (y2:∀ v∈us,v.oneCell'=true) (y3:us.length=ys.length * esz)
  {v:AV} {G':List GO} (ha:ew s.G elem esz eb x ys=some (true,v,G')) :
  bQ E R w β s a o ((s.bq G').put o.dst (.v v)):=by
 obtain ⟨zc,lF,BO⟩:=dK f6;have hA':=hA;have hA:=hA zc lF;obtain ⟨d1,d2⟩:=Rel.cells (BO R w) mg;have sQ:zc.cells.size=esz:=by rw [← hz,d1.length]; simp
 unfold ew at ha;split at ha
 ·-- nothing is appended
  rename_i k sz es;have Ym:us=[]:=aaN (by simpa using y3);have hG:G'=s.G∧Rel R w v cx:=by
   split at ha
   ·injection ha with ha; injection ha with _ ha; injection ha with p q;subst p; subst q;exact ⟨rfl,h0⟩
   ·injection ha with ha; injection ha with _ ha; injection ha with p q;subst p; subst q;exact ⟨rfl,h0⟩
  obtain ⟨rfl,hvr⟩:=hG;refine au (s:=s) h (c:=cx) (fT ?_) hvr;cases h0 with
  |jZ=>exact hA.zero rfl _ _ _ (aaq 0)
  |jN=>exact hA.zero rfl _ _ _ (aaq 0)
  |oG=>exact hA.zero rfl _ _ _ (aaq 0)
  |me=>exact hA.zero rfl _ _ _ (aaq 0)
  |mJ=>exact hA.zero rfl _ _ _ (aaq 0)
  |list hr hlen fj _=>exact hA.zero rfl _ _ _ fj
 ·-- something is appended
  rename_i k sz es y ys hA;have mh:0 < (y :: ys).length:=by simp
  -- what is shown where a new block has been made
  have grown:∀ {n old:Nat} {xs:List Value} {es':List AV},(es'.length=n)→gD esz es'→aL R w (an es') xs→(∀ v∈xs,v.oneCell'=true)→xs.length=n * esz →
    (n+(y :: ys).length) * eb≤140737488355328→n+(y :: ys).length≤maxLen→∀ (R':ai) (G2:List GO) (id:Nat),
    aY E R' (w.drew.alloc (.cells (xs.toArray++us.toArray++aap zc.cells (grownCap w (n+(y :: ys).length) old elem - (n+(y :: ys).length))) elem)) β (s.bq G2) a →
    Step R w β s.boxes R' (w.drew.alloc (.cells (xs.toArray++us.toArray++aap zc.cells (grownCap w (n+(y :: ys).length) old elem - (n+(y :: ys).length))) elem)) β s.boxes →
    (∀ j,j < (n+(y :: ys).length) * esz→R'.I w.heap.size j)→nth R'.obj id=some (.tok (n+(y :: ys).length) w.heap.size (grownCap w (n+(y :: ys).length) old elem) 0) →
    (aao #[t,u] o.type #[cx,cy]).run E.P w=.ok (.slice (some ⟨w.heap.size,0,none⟩) (n+(y :: ys).length) (grownCap w (n+(y :: ys).length) old elem)) (w.drew.alloc (.cells (xs.toArray++us.toArray++aap zc.cells (grownCap w (n+(y :: ys).length) old elem - (n+(y :: ys).length))) elem)) →
    bQ E R w β s a o ((s.bq G2).put o.dst (.v (.list (.own id) esz (es'++(y :: ys))))):=by
   intro n old xs es' Cm Un Uk v7 zG _ _ R' G2 id bl Jb hI hid bp;refine ⟨_,_,_,R',β,fT bp,.inl rfl,bl.put o.dst ?_,by rw [bf]; exact Jb⟩;have e:=Jb.ext;refine Rel.list (uF (vs:=xs++us) (jw Un y0) (by rw [bZ]; exact (Uk.mono e).append (y1.mono e)) (ic v7 y2) (fun j v hj=>?_) (fun j hj=>hI j (by rw [aav,zG,y3,← aax] at hj; exact hj))) (by simp [Cm]) (grownCap_ge w _ _ _) ⟨_,hid,aaq _,fun _=>⟨rfl,.inl rfl,rfl⟩⟩;have pX:(w.drew.alloc (.cells (xs.toArray++us.toArray++aap zc.cells (grownCap w (n+(y :: ys).length) old elem - (n+(y :: ys).length))) elem)).heap[w.heap.size]?=some (.cells (xs.toArray++us.toArray++aap zc.cells (grownCap w (n+(y :: ys).length) old elem - (n+(y :: ys).length))) elem (0,0)):=heap_alloc_new w.drew _;rw [cell_of_row _ _ j _ _ _ pX];have bW:=(aaM.1 hj).1;rw [← aaO];simp only [aa6,aaV];rw [← aaV,aaI bW];exact hj
  have ME:∀ {n old:Nat} {xs:List Value},xs.length=n * esz→n+(y :: ys).length≤maxLen→(xs.toArray++us.toArray++aap zc.cells (grownCap w (n+(y :: ys).length) old elem - (n+(y :: ys).length))).size=grownCap w (n+(y :: ys).length) old elem * esz:=by
   intro n old xs zG _;have BM:=grownCap_ge w (n+(y :: ys).length) old elem;simp only [aba,aaU,size_zeroCells,sQ,zG,y3,← aax];congr 1;omega
  have fresh:∀ {n old:Nat} {xs:List Value} {es':List AV},(es'.length=n)→gD esz es'→aL R w (an es') xs→(∀ v∈xs,v.oneCell'=true)→xs.length=n * esz →
    (n+(y :: ys).length) * eb≤140737488355328→n+(y :: ys).length≤maxLen →
    (aao #[t,u] o.type #[cx,cy]).run E.P w=.ok (.slice (some ⟨w.heap.size,0,none⟩) (n+(y :: ys).length) (grownCap w (n+(y :: ys).length) old elem)) (w.drew.alloc (.cells (xs.toArray++us.toArray++aap zc.cells (grownCap w (n+(y :: ys).length) old elem - (n+(y :: ys).length))) elem)) →
    bQ E R w β s a o ((s.bq (s.G++[.tok (n+(y :: ys).length) esz elem])).put o.dst (.v (.list (.own s.G.length) esz (es'++(y :: ys))))):=by
   intro n old xs es' Cm Un Uk v7 zG hb hm bp;obtain ⟨r1,r2⟩:=h.Ua (cur:=xs.toArray++us.toArray++aap zc.cells (grownCap w (n+(y :: ys).length) old elem - (n+(y :: ys).length))) (elem:=elem) (grownCap_ge w (n+(y :: ys).length) old elem) (grownCap_le_maxLen w _ old elem hm) (ME zG hm);exact grown Cm Un Uk v7 zG hb hm _ _ _ r1 r2 (fun j hj=>.inr ⟨rfl,hj⟩) (by rw [← h.g.len]; exact bS _ _) bp
  have SF:∀ {n:Nat},(n+(y :: ys).length) * eb≤140737488355328→n+(y :: ys).length≤140737488355328:=fun {n} hb=>abc (aa2 _ zF) hb
  split at ha
  ·-- nil
   injection ha with ha; injection ha with hc ha; injection ha with p q;subst p; subst q;have hb:=of_decide_eq_true hc;cases h0 with
   |list _ _ _ G9=>exact G9.elim
   |jZ=>
    simp only [aaT] at hb;have hm:=SF hb;refine fresh (n:=0) (old:=0) (xs:=[]) (es':=[]) rfl (fun e he=>by simp at he) .nil (by simp) (by simp) hb (by unfold maxLen; omega) ?_;have bp:=hA.nil mh (by omega) (by rw [f3]; rw [aaK] at hb; omega);simpa using bp
  ·-- as long as its capacity
   split at ha
   ·rename_i eR;have eR:=aal eR;subst eR;injection ha with ha; injection ha with hc ha; injection ha with p q;subst p; subst q;have hb:=of_decide_eq_true hc;have hm:=SF hb;obtain ⟨x0,xs,x1,x2,x3,x4⟩:=fI (esz:=sz) h0 (.inr rfl);rcases x4 with ⟨rfl,rfl,ad,rfl,hd⟩|⟨b,o',cap,rfl,PL,xk,qB,_⟩
    ·rcases hd with rfl|hd
     ·cases h0
     ·cases hd
    ·have fj:cap=es.length:=xk;subst fj;refine fresh (n:=es.length) (old:=es.length) (xs:=xs) (es':=es) rfl x0 x1 x2 x3 hb (by unfold maxLen; omega) ?_;exact hA.grow mh ⟨b,o',none⟩ es.length es.length xs (by rw [x3,f2]) qB (by omega) (by omega) (growslice_fits (by omega) (by rw [f3]; exact hb))
   ·cases ha
  ·-- of a token
   rename_i id;split at ha
   ·rename_i f bh e' ia;split at ha
    ·rename_i bI;simp only [aas] at bI;obtain ⟨⟨q1,q2⟩,q3⟩:=bI;have q1:=aal q1;have q2:=aal q2;have q3:=aal q3;subst q1; subst q2; subst q3;injection ha with ha; injection ha with hc ha; injection ha with p q;subst p; subst q;simp only [aas] at hc;have wB:=of_decide_eq_true hc.1;have hb:=of_decide_eq_true hc.2;subst wB;have hm:=SF hb;obtain ⟨x0,xs,x1,x2,x3,x4⟩:=fI (esz:=sz) h0 (.inr rfl);rcases x4 with ⟨rfl,rfl,ad,rfl,hd⟩|⟨b,o',cap,rfl,PL,xk,qB,xE⟩
     ·obtain rfl:ad=none:=by
       rcases hd with hd|hd
       ·exact hd
       ·cases hd
      cases h0 with
      | @me _ _ ro ba hon=>
      have bl:=h.g.obj id _ _ ia ba;cases ro with
      |none=>exact bl.elim
      |bE _=>exact bl.elim
      |tok f' g c k0=>
       obtain ⟨rfl,_⟩:=bl;simp [oF] at hon
      |aX _=>exact bl.elim
      |a8=>
       simp only [aaT] at hb;have bp:=hA.nil mh (by omega) (by rw [f3]; rw [aaK] at hb; omega);have eR:=ME (n:=0) (old:=0) (xs:=[]) (by simp) (by unfold maxLen; omega);obtain ⟨r1,r2⟩:=h.My (cur:=[].toArray++us.toArray++aap zc.cells (grownCap w (0+(y :: ys).length) 0 e' - (0+(y :: ys).length))) (elem:=e') (n:=0+(y :: ys).length) (cap:=grownCap w (0+(y :: ys).length) 0 e') ia ba (fun b c=>by simp only [cj]; omega) (grownCap_ge w _ _ _) (grownCap_le_maxLen w _ _ _ (by unfold maxLen; omega)) eR;exact grown (n:=0) (es':=[]) rfl (fun e he=>by simp at he) .nil (by simp) (by simp) hb (by unfold maxLen; omega) _ _ _ r1 r2 (fun j hj=>.inr ⟨rfl,hj⟩) (aj ba) (by simpa using bp)
     ·obtain ⟨ro,ba,xq⟩:=xk;have bl:=h.g.obj id _ _ ia ba;cases ro with
      |none=>exact bl.elim
      |a8=>exact xq.elim
      |bE _=>exact bl.elim
      |aX _=>exact bl.elim
      |tok f' g c k0=>
       obtain ⟨rfl,cur,kA,k1,k3,k4,k5⟩:=bl;obtain ⟨rfl,dG,rfl⟩:=xq.2 rfl;by_cases dM:es.length+(y :: ys).length≤cap
       ·have dG:=dG.resolve_right (by rw [aaQ] at dM; omega);subst dG;have hle:(es.length+(y :: ys).length) * sz≤cap * sz:=aaR _ dM;have bp:=hA.room mh b o' es.length cap cur kA dM (by rw [f2,Nat.add_assoc,y3,← aax,k4]; omega);rw [f2] at bp;obtain ⟨r0,r1,r2⟩:=h.PE (news:=us) (n:=es.length+(y :: ys).length) ia ba (by omega) dM kA k4 k3 (by rw [y3,← aax]);refine ⟨_,_,_,_,β,fT bp,.inl rfl,r1.put o.dst ?_,by rw [bf]; exact r2⟩;have pX:=setRow_heap w b cur (cur.toList.take (o'+es.length * sz)++us++cur.toList.drop (o'+es.length * sz+us.length)).toArray e' (0,0) kA;have Kz:xs.length=es.length * sz:=x3;have iz:cur.toList.length=o'+cap * sz:=by rw [show cur.toList.length=cur.size from aa1,k4]
        have BG:es.length * sz≤cap * sz:=aaR _ (by omega);have j8:∀ j v,(xs++us)[j]?=some v→(w.setRow b (cur.toList.take (o'+es.length * sz)++us++cur.toList.drop (o'+es.length * sz+us.length)).toArray).cell? ⟨b,o'+j,none⟩=some v:=fun j v hj=>by
         rw [cell_of_row _ _ (o'+j) _ _ _ pX];simp only [abb];by_cases hjx:j < xs.length
         ·rw [aaI hjx] at hj;have yg:=qB j v hj;rw [b9,cell_of_row w b (o'+j) cur e' (0,0) kA] at yg;rw [aaV,aaI (by rw [aaZ]; omega),aaW,if_pos (by omega),aaO];exact yg
         ·have bW:=(aaM.1 hj).1;rw [aav] at bW;rw [aaS (by omega)] at hj;have ht:(cur.toList.take (o'+es.length * sz)).length=o'+es.length * sz:=by rw [aaZ]; omega
          rw [aaV,aaS (by rw [ht]; omega),ht,aaI (by omega),show o'+j - (o'+es.length * sz)=j - xs.length by omega];exact hj
        refine Rel.list (mB (jw x0 y0) (fN.make (vs:=xs++us) (by rw [bZ]; exact (x1.mono r0).append (y1.mono r0)) (ic x2 y2) j8 (fun j hj=>.inr ⟨rfl,?_⟩))) (by simp) dM ⟨_,aj ba,aaq _,fun _=>⟨rfl,.inl rfl,rfl⟩⟩;rw [bZ,aav,x1.length,y1.length,Kz,y3,← aax] at hj;omega
       ·have bp:=hA.grow mh ⟨b,o',none⟩ es.length cap xs (by rw [x3,f2]) qB (by omega) (by omega) (growslice_fits (by omega) (by rw [f3]; exact hb));obtain ⟨r1,r2⟩:=h.My (cur:=xs.toArray++us.toArray++aap zc.cells (grownCap w (es.length+(y :: ys).length) cap e' - (es.length+(y :: ys).length))) (elem:=e') (n:=es.length+(y :: ys).length) (cap:=grownCap w (es.length+(y :: ys).length) cap e') ia ba (fun b c=>⟨by omega,fun e=>by omega⟩) (grownCap_ge w _ _ _) (grownCap_le_maxLen w _ _ _ (by unfold maxLen; omega)) (ME x3 (by unfold maxLen; omega));exact grown rfl x0 x1 x2 x3 hb (by unfold maxLen; omega) _ _ _ r1 r2 (fun j hj=>.inr ⟨rfl,hj⟩) (aj ba) bp
    ·cases ha
   ·cases ha
  ·-- of a member of a family
   rename_i id j;split at ha
   ·rename_i fs bh e' ia;split at ha
    ·rename_i bI;simp only [aas] at bI;obtain ⟨⟨q1,q2⟩,q3⟩:=bI;have q1:=aal q1;have q2:=aal q2;have q3:=aal q3;subst q1; subst q2; subst q3;injection ha with ha; injection ha with hc ha; injection ha with p q;subst p; subst q;simp only [aas,decide_eq_true_eq] at hc;exact yo h fT zF hz mg f2 f3 f6 h0 (fun Yq MF=>hA' Yq MF) y0 y1 y2 y3 ia hc.1 hc.2
    ·cases ha
   ·cases ha
  ·cases ha
 ·-- a slice that grows, and nothing
  injection ha with ha; injection ha with _ ha; injection ha with p q;subst p; subst q;refine au (s:=s) h (c:=cx) (fT ?_) h0;cases h0 with
  |jO=>exact hA.zero rfl _ _ _ (aaq 0)
  |de _ _ fj=>exact hA.zero rfl _ _ _ fj
 ·-- a slice that grows
  rename_i id f' off sz len y ys hA;split at ha
  ·rename_i es bh e' ia;split at ha
   ·rename_i bI;simp only [aas] at bI;obtain ⟨⟨q1,q2⟩,q3⟩:=bI;have q1:=aal q1;have q2:=aal q2;have q3:=aal q3;subst q1; subst q2; subst q3;injection ha with ha; injection ha with hc ha; injection ha with p q;subst p; subst q;simp only [aas,decide_eq_true_eq] at hc;exact jh h fT zF hz mg f2 f3 f6 h0 (fun Yq MF=>hA' Yq MF) y0.g y1 y2 y3 ia hc.1.1.1 hc.1.1.2 hc.1.2 hc.2
   ·cases ha
  ·cases ha
 ·-- a row, and nothing
  injection ha with ha; injection ha with _ ha; injection ha with p q;subst p; subst q;refine au (s:=s) h (c:=cx) (fT ?_) h0;cases h0 with
  |tF=>exact hA.zero rfl _ _ _ (aaq 0)
  |eX _ _ fj=>exact hA.zero rfl _ _ _ fj
 ·-- a row
  rename_i id j' sz len y ys hA;split at ha
  ·rename_i rows bh e' ia;split at ha
   ·rename_i bI;simp only [aas] at bI;obtain ⟨⟨q1,q2⟩,q3⟩:=bI;have q1:=aal q1;have q2:=aal q2;have q3:=aal q3;subst q1; subst q2; subst q3;injection ha with ha; injection ha with hc ha; injection ha with p q;subst p; subst q;simp only [aas,decide_eq_true_eq] at hc;exact yn h fT zF hz mg f2 f3 f6 h0 (fun Yq MF=>hA' Yq MF) y0 y1 y2 y3 ia hc.1.1 hc.1.2 hc.2
   ·cases ha
  ·cases ha
 ·cases ha
theorem E0 (h:aY E R w β s a) {args:Array Operand} {t:TypeId} (ho:o.op=.call { callee:=.builtin .append,args:=args,argTypes:=#[t,t] }) {x:AV} {k2:LK} {gK:Nat} {ys:List AV}
  (hl:nL E s.ab args.toList=some [x,.list k2 gK ys]) {i:TI} (hi:E.ti t=some i) {elem esz eb:Nat} {ag:Bool} {z:AV} (hk:i.k=.sl elem esz ag eb (some z)) (BR:ys=[]∨gK=esz) (ago:1≤esz) (zF:1≤eb) (hz:z.cells.length=esz) (mg:z.aR=true)
  {v:AV} {G':List GO} (ha:ew s.G elem esz eb x ys=some (true,v,G')) :
  bQ E R w β s a o ((s.bq G').put o.dst (.v v)):=by
 have hr:=fP h hl;generalize hv:args.toList.map a.eval=vs at hr;have hx:=dL (E:=E) (w:=w) ho vs hv;cases hr with
 | @cons _ cx _ _ h0 h1=>
 cases h1 with
 | @cons _ cy _ _ h1 h2=>
 cases h2;obtain ⟨hU,u,e1,e2,e3,e4,e5,e6⟩:=ck E hi;have Kx:=hk;rw [hk] at e5;obtain ⟨ie,ue,rfl,f1,f2,f3,f4,f5,f6⟩:=dq e5;have oa:(⟨[cx,cy]⟩:Array Value)=#[cx,cy]:=rfl;obtain ⟨y0,us,y1,y2,y3,y4⟩:=fI (esz:=esz) h1 BR;refine kB h (cx:=cx) (cy:=cy) (t:=t) (u:=t) (fun hh=>?_) Kx zF hz mg f1 f2 f3 f6 h0 (fun zc lF=>?_) y0 y1 y2 y3 ha
 ·rw [hx];simp only [builtin,oa,aa8,hh,aaX,aa9]
 ·rcases y4 with ⟨rfl,rfl,ad,rfl,_⟩|⟨Xz,oy,zI,rfl,Yr,_,j9,yE⟩
  ·refine ⟨fun _ base len cap ED=>?_,fun hh=>absurd hh (by simp),fun hh=>absurd hh (by simp),fun hh=>absurd hh (by simp)⟩;cases ad <;> simp [aao,run_underlying e2,run_sizeOf w f1,aa3,aa4,ED,storeCells,loadCells,loadCellsFrom] <;>
    cases base <;> simp [storeCells]
  ·refine ⟨fun hn base len cap ED=>?_,fun hh zJ zK=>run_append_nil (P:=E.P) w t o.type elem ie zc e2 f1 lF _ _ zI us (by rw [y3,f2]) j9 hh zJ zK,fun _ b sLen fk tL uG GF hg zJ zK=>run_append_grow (P:=E.P) w t o.type elem ie zc e2 f1 lF b sLen fk tL uG GF _ _ zI us (by rw [y3,f2]) j9 hg zJ zK,fun _ g k sLen fk cur hg dM nO=>fS (P:=E.P) w t o.type elem ie e2 f1 g k sLen fk cur hg _ _ zI us (by rw [y3,f2]) j9 y2 dM nO⟩;rw [hn];simp [aao,run_underlying e2,run_sizeOf w f1,aa3,aa4,ED,storeCells,loadCells,loadCellsFrom];cases base <;> simp [storeCells]
theorem xu {sz:Nat} {es:List AV} (h:dX sz es) (hc:aF es=true):gD sz es:=by
 induction es with
 |nil=>intro e he; cases he
 |cons x es ih=>
  have sj:(x.closed&&aF es)=true:=hc;rw [aas] at sj;intro e he;rcases abk.1 he with rfl|he
  ·exact ⟨(h e List.mem_cons_self).1,(h e List.mem_cons_self).2,sj.1⟩
  ·exact ih (fun e he=>h e (List.mem_cons_of_mem _ he)) sj.2 e he
theorem KA (h:aY E R w β s a) {id f sz len:Nat} {es:List AV} {el:TypeId} {c:Value} (hid:nth s.G id=some (.cg es sz el)) (hf:f=es.length) (hl:len=es.length) (iz:aF es=true) (hc:Rel R w (.de id f 0 sz len) c) :
  gD sz es∧∃ vs,aL R w (an es) vs∧(∀ v∈vs,v.oneCell'=true)∧vs.length=es.length * sz ∧
   ((es=[]∧vs=[]∧∃ ad,c=.slice ad 0 0)∨∃ b o' cap,c=.slice (some ⟨b,o',none⟩) es.length cap∧es.length≤cap∧(∀ j v,vs[j]?=some v→w.cell? ((⟨b,o',none⟩:Addr).add j)=some v)):=by
 cases hc with
 |jO h1 h2=>
  have he:es=[]:=aaN hl.symm;subst he;exact ⟨(fun e he=>by cases he),[],.nil,by simp,by simp,.inl ⟨rfl,rfl,_,rfl⟩⟩
 | @de _ _ _ _ _ cap b1 o1 ro h1 h2 h3=>
  have hn:ro≠.a8:=fun e=>by subst e; exact h2.elim
  obtain ⟨b,c',cur,vs,rfl,g0,g2,g3,g4,g5,g6,g7,g8,g9⟩:=n9 h.g hid h1 hn;have g1:gD sz es:=xu g0 iz;obtain ⟨rfl,k2,k3⟩:=h2.2 hf;refine ⟨g1,vs,g7,g8,by rw [← g7.length,dH g1],.inr ⟨_,_,_,by rw [hl],by omega,fun j v hj=>?_⟩⟩;rw [b9];have Um:j < vs.length:=(aaM.1 hj).1;have ho:o1=0:=by
   rcases k3 with k3|k3
   ·rw [k3,aa5]
   ·have:es.length=0:=by omega
    rw [← g7.length,dH g1,this,aa5] at Um;omega
  subst ho;rw [aaK,cell_of_row w b1 j cur el (0,0) g2];rw [← g9,aaW] at hj;split at hj
  ·rw [← aaO]; exact hj
  ·cases hj
theorem yp (h:aY E R w β s a) {args:Array Operand} {t:TypeId} (ho:o.op=.call { callee:=.builtin .append,args:=args,argTypes:=#[t,t] }) {x:AV} {id f sz len:Nat} {ys:List AV} {el:TypeId}
  (hl:nL E s.ab args.toList=some [x,.de id f 0 sz len]) (hid:nth s.G id=some (.cg ys sz el)) (hf:f=ys.length) (hlen:len=ys.length) (iz:aF ys=true)
  {i:TI} (hi:E.ti t=some i) {elem esz eb:Nat} {ag:Bool} {z:AV} (hk:i.k=.sl elem esz ag eb (some z)) (BR:sz=esz) (zF:1≤eb) (hz:z.cells.length=esz) (mg:z.aR=true)
  {v:AV} {G':List GO} (ha:ew s.G elem esz eb x ys=some (true,v,G')) :
  bQ E R w β s a o ((s.bq G').put o.dst (.v v)):=by
 have hr:=fP h hl;generalize hv:args.toList.map a.eval=vs at hr;have hx:=dL (E:=E) (w:=w) ho vs hv;cases hr with
 | @cons _ cx _ _ h0 h1=>
 cases h1 with
 | @cons _ cy _ _ h1 h2=>
 cases h2;obtain ⟨hU,u,e1,e2,e3,e4,e5,e6⟩:=ck E hi;have Kx:=hk;rw [hk] at e5;obtain ⟨ie,ue,rfl,f1,f2,f3,f4,f5,f6⟩:=dq e5;have oa:(⟨[cx,cy]⟩:Array Value)=#[cx,cy]:=rfl;subst BR;obtain ⟨y0,us,y1,y2,y3,y4⟩:=KA h hid hf hlen iz h1;refine kB h (cx:=cx) (cy:=cy) (t:=t) (u:=t) (fun hh=>?_) Kx zF hz mg f1 f2 f3 f6 h0 (fun zc lF=>?_) y0 y1 y2 y3 ha
 ·rw [hx];simp only [builtin,oa,aa8,hh,aaX,aa9]
 ·rcases y4 with ⟨rfl,rfl,ad,rfl⟩|⟨Xz,oy,zI,rfl,Yr,j9⟩
  ·refine ⟨fun _ base len cap ED=>?_,fun hh=>absurd hh (by simp),fun hh=>absurd hh (by simp),fun hh=>absurd hh (by simp)⟩;cases ad <;> simp [aao,run_underlying e2,run_sizeOf w f1,aa3,aa4,ED,storeCells,loadCells,loadCellsFrom] <;>
    cases base <;> simp [storeCells]
  ·refine ⟨fun hn base len cap ED=>?_,fun hh zJ zK=>run_append_nil (P:=E.P) w t o.type elem ie zc e2 f1 lF _ _ zI us (by rw [y3,f2]) j9 hh zJ zK,fun _ b sLen fk tL uG GF hg zJ zK=>run_append_grow (P:=E.P) w t o.type elem ie zc e2 f1 lF b sLen fk tL uG GF _ _ zI us (by rw [y3,f2]) j9 hg zJ zK,fun _ g k sLen fk cur hg dM nO=>fS (P:=E.P) w t o.type elem ie e2 f1 g k sLen fk cur hg _ _ zI us (by rw [y3,f2]) j9 y2 dM nO⟩;rw [hn];simp [aao,run_underlying e2,run_sizeOf w f1,aa3,aa4,ED,storeCells,loadCells,loadCellsFrom];cases base <;> simp [storeCells]
theorem zL:∀ (bs:List UInt8),aL R w (an (bs.map um)) (aa7 ⟨⟨bs⟩⟩)
 |[]=>.nil
 |b :: bs=>.cons (Rel.int .u8 b.toNat) (zL bs)
theorem yq (h:aY E R w β s a) {args:Array Operand} {t u:TypeId} (ho:o.op=.call { callee:=.builtin .append,args:=args,argTypes:=#[t,u] }) {x:AV} {bs:List UInt8}
  (hl:nL E s.ab args.toList=some [x,.str bs]) {i j:TI} (hi:E.ti t=some i) (hj:E.ti u=some j) {elem eb:Nat} {ag:Bool} {z:AV} (hk:i.k=.sl elem 1 ag eb (some z)) (XC:j.k=.str) (zF:1≤eb) (hz:z.cells.length=1) (mg:z.aR=true)
  {v:AV} {G':List GO} (ha:ew s.G elem 1 eb x (bs.map um)=some (true,v,G')) :
  bQ E R w β s a o ((s.bq G').put o.dst (.v v)):=by
 have hr:=fP h hl;generalize hv:args.toList.map a.eval=vs at hr;have hx:=dL (E:=E) (w:=w) ho vs hv;cases hr with
 | @cons _ cx _ _ h0 h1=>
 cases h1 with
 | @cons _ cy _ _ h1 h2=>
 cases h2;obtain ⟨hU,ud,e1,e2,e3,e4,e5,e6⟩:=ck E hi;obtain ⟨Ys,ud',g1,g2,g3,g4,g5,g6⟩:=ck E hj;rw [XC] at g5;have:=mL g5;subst this;have Kx:=hk;rw [hk] at e5;obtain ⟨ie,ue,rfl,f1,f2,f3,f4,f5,f6⟩:=dq e5;cases h1;have eR:(⟨⟨bs⟩⟩:ByteArray).size=bs.length:=rfl;have hlen:(bs.map um).length=bs.length:=List.length_map _;have oa:(⟨[cx,.string ⟨⟨bs⟩⟩]⟩:Array Value)=#[cx,.string ⟨⟨bs⟩⟩]:=rfl;have iz:(aa7 ⟨⟨bs⟩⟩).length=bs.length:=abg _;refine kB h (cx:=cx) (cy:=.string ⟨⟨bs⟩⟩) (us:=aa7 ⟨⟨bs⟩⟩) (t:=t) (u:=u) (fun hh=>?_) Kx zF hz mg f1 f2 f3 f6 h0 (fun zc lF=>?_) ?_ (zL bs) (abj _) (by rw [iz,hlen,Nat.mul_one]) ha
 ·rw [hx];simp only [builtin,oa,aa8,hh,aaX,aa9]
 ·rw [hlen];refine ⟨fun hn base len cap ED=>?_,fun hh zJ zK=>?_,fun _ b sLen fk tL uG GF hg zJ zK=>Lib.run_append_grow_string (P:=E.P) w t u o.type elem ie zc e2 g2 f1 lF b sLen fk tL uG GF ⟨⟨bs⟩⟩ hg zJ zK,fun _ g k sLen fk cur hg dM nO=>?_⟩
  ·have hb:bs=[]:=aaN hn;subst hb;have Yt:(⟨⟨[]⟩⟩:ByteArray).size=0:=rfl;simp [Yt,aao,run_underlying e2,run_underlying g2,run_sizeOf w f1,aa3,aa4,ED,storeCells];cases base <;> simp [storeCells]
  ·rw [run_append_nil_string (P:=E.P) w t u o.type elem ie zc e2 g2 f1 lF ⟨⟨bs⟩⟩ hh zJ zK];simp [aa7,eR]
  ·have:=ph (P:=E.P) w t u o.type elem ie e2 g2 f1 f2 g k sLen fk cur hg ⟨⟨bs⟩⟩ dM (by rw [f2,Nat.mul_one,iz] at nO; exact nO);rw [this,f2,Nat.mul_one,iz];rfl
 ·intro e he;obtain ⟨b,_,rfl⟩:=List.mem_map.1 he;exact ⟨rfl,rfl,rfl⟩
def ai.zM (R:ai) (id:Nat) (ro:RO):ai:=⟨R.I,ak R.obj id .none++[ro]⟩
theorem po {R:ai} {id i:Nat} {r0 ro r:RO} (hid:nth R.obj id=some r0) (h:nth (R.zM id ro).obj i=some r):(i=id∧r=.none)∨(i≠id∧nth R.obj i=some r)∨(i=R.obj.length∧r=ro):=by
 rcases ah h with h|⟨h1,h2⟩
 ·rcases ar hid h with h|h
  ·exact .inl h
  ·exact .inr (.inl h)
 ·refine .inr (.inr ⟨?_,h2⟩);rw [h1,dV,abe]
theorem KB {id f b c k:Nat} (ro:RO) (hid:nth R.obj id=some (.tok f b c k)):Ext R w (R.zM id ro) w:=
 ⟨fun _ _ h=>h,fun _ _ _=>rfl,fun i r hr=>by
  by_cases e:id=i
  ·subst e;rw [hid] at hr;cases hr;exact ⟨.none,bn (aj hid),trivial⟩
  ·exact ⟨r,bn (by rw [aJ e]; exact hr),cj.refl r⟩,fb.refl w⟩
theorem MG (h:aY E R w β s a) {f:FuncId} {s':St} (hs:GY E f s o=some (true,s')):bQ E R w β s a o s':=by
 unfold GY at hs;split at hs
 ·rename_i t x lo d ho hd;split at hs
  ·split at hs
   ·rename_i i id sz es k n qP hx uG;split at hs
    ·rename_i elem esz ag pK z f0 bh ety hk ia;split at hs
     ·rename_i bI;simp only [aas] at bI;have q1:=aal bI.1;have q2:=(aal bI.2).symm;subst q1; subst q2;injection hs with hs; injection hs with hc hs;subst hs;simp only [aas,decide_eq_true_eq] at hc;obtain ⟨vT,cq,Cm,Kt⟩:=hc;subst vT;obtain ⟨p,rfl⟩:∃ p:Nat,n=(p:Int):=⟨n.toNat,by omega⟩;rw [Int.toNat_natCast];have hp:p≤es.length:=by omega
      obtain ⟨hU,u,e1,e2,e3,e4,e5,e6⟩:=ck E qP;rw [hk] at e5;obtain ⟨ie,ue,rfl,f1,f2,f3,f4,f5,f6⟩:=dq e5;have rx:=aV h x;rw [hx] at rx;have dW:Rel R w (.list (.own id) sz es) (a.eval x):=rx;generalize fO:a.eval x=xv at dW;cases dW with
      |me _ _=>simp at cq
      | @list _ _ _ b o' len cap hr hlen fj G9=>
       subst hlen;obtain ⟨ro,ba,xq⟩:=G9;have bl:=h.g.obj id _ _ ia ba;cases ro with
       |none=>exact bl.elim
       |a8=>exact xq.elim
       |bE _=>exact bl.elim
       |aX _=>exact bl.elim
       |tok f' g c k0=>
        obtain ⟨rfl,cur,kA,k1,k3,k4,k5⟩:=bl;obtain ⟨rfl,dG,rfl⟩:=xq.2 rfl;have dG:=dG.resolve_right (by omega);subst dG;have hl:nN E s.ab (some lo)=some (some (.v (.int k (p:Int)))):=by simp [nN,uG]
        have hb:Dp es.length (some (.v (.int k (p:Int)))) none=some (true,p,es.length):=by
         have d:decide ((0:Int)≤(p:Int)∧(p:Int)≤(es.length:Int))=true:=decide_eq_true (by omega);simp only [Dp,zj,d,Int.toNat_natCast,Bool.and_self]
        obtain ⟨r1,_,_⟩:=eS (E:=E) true fj (uB h hl) (uB h (show nN E s.ab none=some none from rfl)) hb;have bp:(execOp a.eval o).run E.P w=.ok (.value (.slice (if cap=p then some ⟨b,o',none⟩ else some ⟨b,o'+p * sz,none⟩) (es.length - p) (cap - p))) w:=by
         simp only [execOp,ho,Instr.sliceAt,aa8,run_underlying e2,aaX,Instr.slice,fO,r1,run_sizeOf w f1,f2,aa9,Option.map_some,Option.map_none,b9] at *
        have e:=KB (R:=R) (w:=w) (.tok (es.length - p) b (cap - p) (o'+p * sz)) ba;have hmul:(cap - p) * sz+p * sz=cap * sz:=by rw [← aax]; congr 1; omega
        have aeH:(es.length - p) * sz+p * sz=es.length * sz:=by rw [← aax]; congr 1; omega
        have live:∀ b',Live (R.zM id (.tok (es.length - p) b (cap - p) (o'+p * sz))) b'→Live R b':=fun b' hl=>by
         obtain ⟨i,r,h1,h2⟩:=hl;rcases po ba h1 with ⟨_,rfl⟩|⟨_,h1⟩|⟨_,rfl⟩
         ·exact h2.elim
         ·exact ⟨i,r,h1,h2⟩
         ·exact ⟨id,_,ba,h2⟩
        have hG:aY E (R.zM id (.tok (es.length - p) b (cap - p) (o'+p * sz))) w β (s.bq (ak s.G id .dead++[.tok (es.length - p) sz ety])) a:=by
         refine ⟨⟨by simp [St.bq,ai.zM,dV,h.g.len],fun i gg r h1 h2=>?_,fun i j ri rj b' h1 h2 b1 b2=>?_,h.g.wf,fun g cs hg=>(h.g.dF g cs hg).mono e,h.g.lo⟩,h.b.keep e (fun _ _ _=>rfl) (fun _ _ _ _ hi=>hi) (fun _ _ _ hl=>live _ hl),h.t.mono e,h.n,h.d.mono e⟩
         ·simp only [St.bq] at h1;rcases po ba h2 with ⟨rfl,rfl⟩|⟨E1,h2⟩|⟨h3,rfl⟩
          ·rw [bn (aj ia)] at h1;cases h1;trivial
          ·rcases ah h1 with h1|⟨h3,_⟩
           ·rw [aJ (abh E1)] at h1;exact (h.g.obj i gg r h1 h2).mono e (fun _ _=>rfl) (fun _ _ _ hi=>hi)
           ·have:=aU h2;rw [h3,dV,abe,h.g.len] at this;omega
          ·rcases ah h1 with h1|⟨_,rfl⟩
           ·have:=aU h1;rw [h3,dV,abe,h.g.len] at this;omega
           ·exact ⟨rfl,cur,kA,by omega,by omega,by omega,fun o2 ho2 hi=>k5 o2 (by omega) hi⟩
         ·rcases po ba h1 with ⟨_,rfl⟩|⟨m1,h1⟩|⟨m1,rfl⟩
          ·exact b1.elim
          ·rcases po ba h2 with ⟨_,rfl⟩|⟨m2,h2⟩|⟨m2,rfl⟩
           ·exact b2.elim
           ·exact h.g.inj i j ri rj b' h1 h2 b1 b2
           ·exact absurd (h.g.inj i id ri _ b' h1 ba b1 b2) m1
          ·rcases po ba h2 with ⟨_,rfl⟩|⟨m2,h2⟩|⟨m2,rfl⟩
           ·exact b2.elim
           ·exact absurd (h.g.inj j id rj _ b' h2 ba b2 b1) m2
           ·omega
        have iP:Step R w β s.boxes (R.zM id (.tok (es.length - p) b (cap - p) (o'+p * sz))) w β s.boxes:=by
         refine ⟨e,rfl,rfl,rfl,aaq _,fun _ _ _=>rfl,fun b' _ ho=>?_,fun _ _ h _ _=>h⟩;rcases ho with ho|ho
         ·exact .inl (live b' ho)
         ·exact .inr ho
        have pX:nth (R.zM id (.tok (es.length - p) b (cap - p) (o'+p * sz))).obj s.G.length=some (.tok (es.length - p) b (cap - p) (o'+p * sz)):=by
         have:=bS (ak R.obj id .none) (RO.tok (es.length - p) b (cap - p) (o'+p * sz));rw [dV,abe,h.g.len,← dV] at this;exact this
        refine ⟨_,_,w,_,β,bp,.inl rfl,?_,by rw [bf]; exact iP⟩;rw [hd];refine hG.put (some d) (x:=.v (.list (.own s.G.length) sz (es.drop p))) ?_;by_cases Pz:cap=p
        ·rw [if_pos Pz];have he:es.drop p=[]:=aaN (by rw [aa0]; omega);exact Rel.list (by rw [he]; exact .nil) (by rw [aa0]) (by omega) ⟨_,pX,aaq _,fun _=>⟨rfl,.inr (by omega),rfl⟩⟩
        ·rw [if_neg Pz];exact Rel.list ((we p hr).mono e) (by rw [aa0]) (by omega) ⟨_,pX,aaq _,fun _=>⟨rfl,.inl rfl,rfl⟩⟩
     ·cases hs
    ·cases hs
   ·cases hs
  ·cases hs
 ·cases hs
end ops
end Go.Am
namespace Go.Am
open Go
section
variable {E:Env} {R R':ai} {w w':World} {β:Nat→Nat} {s:St} {a:Act} {o:Oper}
theorem aY.Uo (h:aY E R w β s a) {id sz:Nat} {e:TypeId} {rows:List (List AV)} (hid:nth s.G id=some (.gT rows sz e)) (n:Nat) {ro:RO} (ba:nth R.obj id=some ro) :
  ∃ ts,ro=.aX ts∧ts.length=rows.length∧aY E (R.reset id (.aX (ts++aaY n .a8))) w β (s.bq (ak s.G id (.gT (rows++aaY n []) sz e))) a∧Step R w β s.boxes (R.reset id (.aX (ts++aaY n .a8))) w β s.boxes:=by
 have bl:=h.g.obj id _ _ hid ba;cases ro with
 |none=>exact bl.elim
 |a8=>exact bl.elim
 |bE _=>exact bl.elim
 |tok _ _ _ _=>exact bl.elim
 |aX ts=>
 obtain ⟨q1,q2,q3⟩:=bl;have rq:∀ j f b c,nth (aaY n TR.a8) j≠some (.tok f b c):=fun j f b c hj=>by
  rw [aN] at hj;have:=List.eq_of_mem_replicate (abf hj);cases this
 have lG:∀ b,RO.has (.aX (ts++aaY n .a8)) b→RO.has (.aX ts) b:=fun b ⟨j,f,c,hj⟩=>by
  rcases aZ hj with hj|⟨i,_,hi⟩
  ·exact ⟨j,f,c,hj⟩
  ·exact absurd hi (rq i f b c)
 have ext:Ext R w (R.reset id (.aX (ts++aaY n .a8))) w:=mD ba (fun j t hj=>⟨t,lH hj,iD.refl t⟩) (Ext.refl R w);have live:∀ b,Live (R.reset id (.aX (ts++aaY n .a8))) b→Live R b:=fun b ⟨i,r,h1,h2⟩=>by
  rcases ar ba h1 with ⟨_,rfl⟩|⟨_,h1⟩
  ·exact ⟨id,_,ba,lG b h2⟩
  ·exact ⟨i,r,h1,h2⟩
 refine ⟨ts,rfl,q1,⟨⟨by simp [St.bq,ai.reset,h.g.len],fun i g r h1 h2=>?_,fun i j ri rj b h1 h2 b1 b2=>?_,h.g.wf,fun g cs hg=>(h.g.dF g cs hg).mono ext,h.g.lo⟩,h.b.keep ext (fun _ _ _=>rfl) (fun _ _ _ _ h=>h) (fun _ _ _ hl=>live _ hl),h.t.mono ext,h.n,h.d.mono ext⟩,?_⟩
 ·rcases ar ba h2 with ⟨rfl,rfl⟩|⟨cq,h2⟩
  ·simp only [St.bq] at h1;rw [aj hid] at h1;cases h1;refine ⟨by simp [q1],fun i j f b c f' c' hi hj=>?_,fun j row t hf ht=>?_⟩
   ·rcases aZ hi with hi|⟨_,_,hi⟩
    ·rcases aZ hj with hj|⟨_,_,hj⟩
     ·exact q2 i j _ _ _ _ _ hi hj
     ·exact absurd hj (rq _ _ _ _)
    ·exact absurd hi (rq _ _ _ _)
   ·rcases aZ hf with vT|⟨k,hk,vT⟩
    ·rcases aZ ht with ht|⟨k',iZ,ht⟩
     ·exact (q3 j row t vT ht).mono ext fun _ _ _ _=>⟨rfl,fun _ h=>h⟩
     ·have:=aU vT;omega
    ·rcases aZ ht with ht|⟨k',iZ,ht⟩
     ·have:=aU ht;omega
     ·rw [aN] at ht vT;rw [List.eq_of_mem_replicate (abf ht),List.eq_of_mem_replicate (abf vT)];exact rfl
  ·simp only [St.bq] at h1;rw [aJ (abh cq)] at h1;exact (h.g.obj i g r h1 h2).mono ext (fun _ _=>rfl) (fun _ _ _ h=>h)
 ·rcases ar ba h1 with ⟨g3,e1⟩|⟨g3,g1⟩
  ·rcases ar ba h2 with ⟨g4,e2⟩|⟨g4,g2⟩
   ·omega
   ·rw [e1] at b1;exact g3.trans (h.g.inj id j _ _ b ba g2 (lG b b1) b2)
  ·rcases ar ba h2 with ⟨g4,e2⟩|⟨g4,g2⟩
   ·rw [e2] at b2;exact (h.g.inj i id _ _ b g1 ba b1 (lG b b2)).trans g4.symm
   ·exact h.g.inj i j ri rj b g1 g2 b1 b2
 ·refine ⟨ext,rfl,rfl,rfl,aaq _,fun _ _ _=>rfl,fun b _ ho=>?_,fun _ _ h _ _=>h⟩;rcases ho with ho|ho
  ·exact .inl (live b ho)
  ·exact .inr ho
theorem aY.Jc (h:aY E R w β s a) {id mid sz:Nat} {el:TypeId} {es:List AV} {rows:List (List AV)} (hg:nth s.G id=some (.cg es sz el)) (hm:nth s.G mid=some (.gT rows sz el)) {ro:RO} {ts:List TR} (ba:nth R.obj id=some ro) (I9:nth R.obj mid=some (.aX ts))
  {t:TR} (hle:cj ro .none) (ht:zm R w sz el es t) (hh:∀ f x c,t=.tok f x c→ro.has x) :
  aY E ((R.reset id .none).reset mid (.aX (ts++[t]))) w β (s.bq (ak (ak s.G id .dead) mid (.gT (rows++[es]) sz el))) a∧Step R w β s.boxes ((R.reset id .none).reset mid (.aX (ts++[t]))) w β s.boxes:=by
 have cq:id≠mid:=fun e=>by
  subst e;rw [hg] at hm;cases hm
 have KC:nth (R.reset id .none).obj mid=some (.aX ts):=by rw [ai.reset,aJ cq]; exact I9
 have Pv:nth (ak s.G id .dead) mid=some (.gT rows sz el):=by rw [aJ cq]; exact hm
 obtain ⟨q1,q2,q3⟩:=h.g.obj mid _ _ hm I9;have ext:Ext R w ((R.reset id .none).reset mid (.aX (ts++[t]))) w:=mD KC (fun j t hj=>⟨t,lH hj,iD.refl t⟩) (Ext.refl (R.reset id .none) w) |> fun e=>(mD ba hle (Ext.refl R w)).trans e
 -- whose block a block is
 have lG:∀ x,RO.has (.aX (ts++[t])) x→RO.has (.aX ts) x∨ro.has x:=fun x ⟨j,f,c,hj⟩=>by
  rcases aZ hj with hj|⟨i,_,hi⟩
  ·exact .inl ⟨j,f,c,hj⟩
  ·cases i with
   |zero=>cases hi; exact .inr (hh _ _ _ rfl)
   |succ i=>cases hi
 have sW:∀ i r x,nth ((R.reset id .none).reset mid (.aX (ts++[t]))).obj i=some r→r.has x→(i=mid∧RO.has (.aX ts) x)∨(i=mid∧ro.has x)∨(i≠mid∧i≠id∧nth R.obj i=some r):=fun i r x h1 h2=>by
  rcases ar KC h1 with ⟨rfl,rfl⟩|⟨k1,h1⟩
  ·rcases lG x h2 with h2|h2
   ·exact .inl ⟨rfl,h2⟩
   ·exact .inr (.inl ⟨rfl,h2⟩)
  ·rcases ar ba h1 with ⟨rfl,rfl⟩|⟨k2,h1⟩
   ·exact h2.elim
   ·exact .inr (.inr ⟨k1,k2,h1⟩)
 have live:∀ x,Live ((R.reset id .none).reset mid (.aX (ts++[t]))) x→Live R x:=fun x ⟨i,r,h1,h2⟩=>by
  rcases sW i r x h1 h2 with ⟨_,k⟩|⟨_,k⟩|⟨_,_,k⟩
  ·exact ⟨mid,_,I9,k⟩
  ·exact ⟨id,_,ba,k⟩
  ·exact ⟨i,r,k,h2⟩
 refine ⟨⟨⟨by simp [St.bq,ai.reset,h.g.len],fun i g r h1 h2=>?_,fun i j ri rj x h1 h2 b1 b2=>?_,h.g.wf,fun g cs hg=>(h.g.dF g cs hg).mono ext,h.g.lo⟩,h.b.keep ext (fun _ _ _=>rfl) (fun _ _ _ _ h=>h) (fun _ _ _ hl=>live _ hl),h.t.mono ext,h.n,h.d.mono ext⟩,?_⟩
 ·rcases ar KC h2 with ⟨rfl,rfl⟩|⟨k1,h2⟩
  ·simp only [St.bq] at h1;rw [aj Pv] at h1;cases h1;have O5:∀ i f b c f' c',nth ts i=some (.tok f b c)→t=.tok f' b c'→False:=fun i f b c f' c' hi ht=>cq (h.g.inj id _ _ _ b ba I9 (hh _ _ _ ht) ⟨i,f,c,hi⟩)
   refine ⟨by simp [q1],fun i j f b c f' c' hi hj=>?_,fun j row t' hf mC=>?_⟩
   ·rcases aZ hi with hi|⟨k,hk,hi⟩
    ·rcases aZ hj with hj|⟨k',iZ,hj⟩
     ·exact q2 i j _ _ _ _ _ hi hj
     ·cases k' with
      |zero=>simp only [nth,abp] at hj; exact (O5 _ _ _ _ _ _ hi hj).elim
      |succ _=>cases hj
    ·cases k with
     |succ _=>cases hi
     |zero=>
      rcases aZ hj with hj|⟨k',iZ,hj⟩
      ·simp only [nth,abp] at hi; exact (O5 _ _ _ _ _ _ hj hi).elim
      ·cases k' with
       |zero=>omega
       |succ _=>cases hj
   ·rcases aZ hf with vT|⟨k,hk,vT⟩
    ·rcases aZ mC with mC|⟨k',iZ,mC⟩
     ·exact (q3 j row t' vT mC).mono ext fun _ _ _ _=>⟨rfl,fun _ h=>h⟩
     ·have:=aU vT;omega
    ·rcases aZ mC with mC|⟨k',iZ,mC⟩
     ·have:=aU mC;omega
     ·have G9:k=k':=by omega
      subst G9;cases k with
      |succ _=>cases vT
      |zero=>
       cases vT; cases mC;exact ht.mono ext fun _ _ _ _=>⟨rfl,fun _ h=>h⟩
  ·simp only [St.bq] at h1;rw [aJ (abh k1)] at h1;rcases ar ba h2 with ⟨rfl,rfl⟩|⟨k2,h2⟩
   ·rw [aj hg] at h1;cases h1;exact trivial
   ·rw [aJ (abh k2)] at h1;exact (h.g.obj i g r h1 h2).mono ext (fun _ _=>rfl) (fun _ _ _ h=>h)
 ·rcases sW i ri x h1 b1 with ⟨k1,k2⟩|⟨k1,k2⟩|⟨k1,k2,k3⟩
  ·rcases sW j rj x h2 b2 with ⟨l1,l2⟩|⟨l1,l2⟩|⟨l1,l2,l3⟩
   ·omega
   ·omega
   ·exact absurd (h.g.inj mid j _ _ x I9 l3 k2 b2).symm l1
  ·rcases sW j rj x h2 b2 with ⟨l1,l2⟩|⟨l1,l2⟩|⟨l1,l2,l3⟩
   ·omega
   ·omega
   ·exact absurd (h.g.inj id j _ _ x ba l3 k2 b2).symm l2
  ·rcases sW j rj x h2 b2 with ⟨l1,l2⟩|⟨l1,l2⟩|⟨l1,l2,l3⟩
   ·exact absurd (h.g.inj mid i _ _ x I9 k3 l2 b1).symm k1
   ·exact absurd (h.g.inj id i _ _ x ba k3 l2 b1).symm k2
   ·exact h.g.inj i j ri rj x k3 l3 b1 b2
 ·refine ⟨ext,rfl,rfl,rfl,aaq _,fun _ _ _=>rfl,fun b _ ho=>?_,fun _ _ h _ _=>h⟩;rcases ho with ho|ho
  ·exact .inl (live b ho)
  ·exact .inr ho
theorem aY.MH (h:aY E R w β s a) {id mid sz:Nat} {el:TypeId} {es:List AV} {rows:List (List AV)} (hg:nth s.G id=some (.cg es sz el)) (hm:nth s.G mid=some (.gT rows sz el)) (iz:aF es=true) :
  ∃ R',aY E R' w β (s.bq (ak (ak s.G id .dead) mid (.gT (rows++[es]) sz el))) a∧Step R w β s.boxes R' w β s.boxes∧∀ f len c,f=es.length→len=es.length→Rel R w (.de id f 0 sz len) c→Rel R' w (.eX mid rows.length sz len) c:=by
 have cq:id≠mid:=fun e=>by
  subst e;rw [hg] at hm;cases hm
 have ex:∀ {i:Nat} {g:GO},nth s.G i=some g→∃ ro,nth R.obj i=some ro:=fun {i g} hi=>by
  have:=aU hi;rw [← h.g.len] at this;exact ⟨R.obj[i],by rw [aN]; exact aaL this⟩
 obtain ⟨ro,ba⟩:=ex hg;obtain ⟨rm,hrm⟩:=ex hm;have bl:=h.g.obj id _ _ hg ba;have E2:=h.g.obj mid _ _ hm hrm;cases rm with
 |none=>exact E2.elim
 |a8=>exact E2.elim
 |bE _=>exact E2.elim
 |tok _ _ _ _=>exact E2.elim
 |aX ts=>
 have hlen:ts.length=rows.length:=E2.1;have KC:nth (R.reset id .none).obj mid=some (.aX ts):=by rw [ai.reset,aJ cq]; exact hrm
 cases ro with
 |none=>exact bl.elim
 |bE _=>exact bl.elim
 |aX _=>exact bl.elim
 |a8=>
  have BG:es=[]:=bl;subst BG;obtain ⟨r1,r2⟩:=h.Jc hg hm ba hrm (t:=.a8) trivial rfl (fun _ _ _ e=>by cases e);refine ⟨_,r1,r2,fun f len c e1 e2 hc=>?_⟩;subst e1; subst e2;cases hc with
  |jO _ _=>exact Rel.tF (aj KC) trivial
  |de hr dG _=>
   rw [ba] at hr;cases hr;exact dG.elim
 |tok f0 b c k=>
  obtain ⟨rfl,rfl,h1,cur,vs,h2,h3,h4,h5,h6,h7,h8,h9⟩:=bl;obtain ⟨r1,r2⟩:=h.Jc hg hm ba hrm (t:=.tok es.length b c) trivial ⟨rfl,xu h1 iz,cur,vs,h2,h3,h4,h5,h6,h7,h8,h9⟩ (fun _ _ _ e=>by cases e; exact rfl);refine ⟨_,r1,r2,fun f len c' e1 e2 hc=>?_⟩;subst e1; subst e2;generalize hl:es.length=n at hc;cases hc with
  |jO hr hon=>
   rw [ba] at hr;cases hr;have:1≤es.length:=hon;omega
  |de hr dG fj=>
   rw [ba] at hr;cases hr;obtain ⟨p1,p2⟩:=dG;obtain ⟨p3,p4,p5⟩:=p2 hl.symm;subst hl;refine Rel.eX (aj KC) ⟨.tok es.length b c,?_,aaq _,fun _=>⟨p3,?_,by omega⟩⟩ fj
   ·rw [← hlen,aN,aaS (aaq _),abm];rfl
   ·rcases p5 with p5|p5
    ·exact .inl (by rw [p5,aa5])
    ·exact .inr p5
theorem yt (h:aY E R w β s a) {args:Array Operand} {t:TypeId} (ho:o.op=.call { callee:=.builtin .append,args:=args,argTypes:=#[t,t] }) {id f off sz len Ki cap y1 y2 y3 y4:Nat} {el:TypeId}
  (hl:nL E s.ab args.toList=some [.de id f off sz len,.jV Ki 0 1 1 cap]) (hid:nth s.G Ki=some (.row [.eX y1 y2 y3 y4] el))
  {i:TI} (hi:E.ti t=some i) {elem esz eb:Nat} {ag:Bool} {z:AV} (hk:i.k=.sl elem esz ag eb (some z)) (BR:esz=1) (zF:1≤eb) (hz:z.cells.length=esz) (mg:z.aR=true)
  {v:AV} {G':List GO} (ha:ew s.G elem esz eb (.de id f off sz len) [.eX y1 y2 y3 y4]=some (true,v,G')) :
  bQ E R w β s a o ((s.bq G').put o.dst (.v v)):=by
 have hr:=fP h hl;generalize hv:args.toList.map a.eval=vs at hr;have hx:=dL (E:=E) (w:=w) ho vs hv;cases hr with
 | @cons _ cx _ _ h0 h1=>
 cases h1 with
 | @cons _ cy _ _ h1 h2=>
 cases h2;obtain ⟨hU,u,e1,e2,e3,e4,e5,e6⟩:=ck E hi;rw [hk] at e5;obtain ⟨ie,ue,rfl,f1,f2,f3,f4,f5,f6⟩:=dq e5;have oa:(⟨[cx,cy]⟩:Array Value)=#[cx,cy]:=rfl;subst BR;cases h1 with
 | @jV _ _ _ _ _ b hb fj=>
 obtain ⟨us,k1,k2,k3,k4⟩:=h.g.obj Ki _ _ hid hb;have DD:us.length=1:=k2.length.symm;have j9:∀ j v,us[j]?=some v→w.cell? ((⟨b,0,none⟩:Addr).add j)=some v:=fun j v hj=>by
  rw [b9,aaK,cell_of_row w b j _ el (0,0) k1];simpa using hj
 unfold ew at ha;simp only at ha;split at ha
 ·rename_i es bh e' ia;split at ha
  ·rename_i bI;simp only [aas] at bI;obtain ⟨⟨q1,q2⟩,q3⟩:=bI;have q1:=aal q1;have q2:=aal q2;have q3:=aal q3;subst q1; subst q2; subst q3;injection ha with ha; injection ha with hc ha; injection ha with p q;subst p; subst q;simp only [aas,decide_eq_true_eq] at hc;refine jh h (cx:=cx) (cy:=.slice (some ⟨b,0,none⟩) 1 cap) (t:=t) (u:=t) (us:=us) (fun hh=>?_) zF hz mg f2 f3 f6 h0 (y:=.eX y1 y2 y3 y4) (ys:=[]) (fun zc lF=>?_) (fun e he=>?_) k2 k3 (by simpa using DD) ia hc.1.1.1 hc.1.1.2 hc.1.2 hc.2
   ·rw [hx];simp only [builtin,oa,aa8,hh,aaX,aa9]
   ·refine ⟨fun hn=>absurd hn (by simp),fun hh zJ zK=>run_append_nil (P:=E.P) w t o.type e' ie zc e2 f1 lF _ _ cap us (by rw [DD,f2]) j9 hh zJ zK,fun _ b sLen fk tL uG GF hg zJ zK=>run_append_grow (P:=E.P) w t o.type e' ie zc e2 f1 lF b sLen fk tL uG GF _ _ cap us (by rw [DD,f2]) j9 hg zJ zK,fun _ g k sLen fk cur hg dM nO=>fS (P:=E.P) w t o.type e' ie e2 f1 g k sLen fk cur hg _ _ cap us (by rw [DD,f2]) j9 k3 dM nO⟩
   ·rcases abk.1 he with rfl|he
    ·exact ⟨rfl,rfl⟩
    ·cases he
  ·cases ha
 ·cases ha
theorem wC (h:aY E R w β s a) {args:Array Operand} {t:TypeId} (ho:o.op=.call { callee:=.builtin .append,args:=args,argTypes:=#[t,t] }) {id f off sz len Ki msz cap:Nat} {cs:List AV} {el:TypeId}
  (hl:nL E s.ab args.toList=some [.de id f off sz len,.jV Ki 0 msz 1 cap]) (hid:nth s.G Ki=some (.row cs el))
  {i:TI} (hi:E.ti t=some i) {elem esz eb:Nat} {ag:Bool} {z:AV} (hk:i.k=.sl elem esz ag eb (some z)) (iz:cs.length=esz) (zF:1≤eb) (hz:z.cells.length=esz) (mg:z.aR=true)
  {v:AV} {G':List GO} (ha:ew s.G elem esz eb (.de id f off sz len) [.agg cs]=some (true,v,G')) :
  bQ E R w β s a o ((s.bq G').put o.dst (.v v)):=by
 have hr:=fP h hl;generalize hv:args.toList.map a.eval=vs at hr;have hx:=dL (E:=E) (w:=w) ho vs hv;cases hr with
 | @cons _ cx _ _ h0 h1=>
 cases h1 with
 | @cons _ cy _ _ h1 h2=>
 cases h2;obtain ⟨hU,u,e1,e2,e3,e4,e5,e6⟩:=ck E hi;rw [hk] at e5;obtain ⟨ie,ue,rfl,f1,f2,f3,f4,f5,f6⟩:=dq e5;have oa:(⟨[cx,cy]⟩:Array Value)=#[cx,cy]:=rfl;subst iz;cases h1 with
 | @jV _ _ _ _ _ b hb fj=>
 obtain ⟨us,k1,k2,k3,k4⟩:=h.g.obj Ki _ _ hid hb;have DD:us.length=cs.length:=k2.length.symm;have j9:∀ j v,us[j]?=some v→w.cell? ((⟨b,0,none⟩:Addr).add j)=some v:=fun j v hj=>by
  rw [b9,aaK,cell_of_row w b j _ el (0,0) k1];simpa using hj
 have Cu:an [AV.agg cs]=cs:=by simp [an,AV.cells]
 unfold ew at ha;simp only at ha;split at ha
 ·rename_i es bh e' ia;split at ha
  ·rename_i bI;simp only [aas] at bI;obtain ⟨⟨q1,q2⟩,q3⟩:=bI;have q1:=aal q1;have q2:=aal q2;have q3:=aal q3;subst q1; subst q2; subst q3;injection ha with ha; injection ha with hc ha; injection ha with p q;subst p; subst q;simp only [aas,decide_eq_true_eq] at hc;refine jh h (cx:=cx) (cy:=.slice (some ⟨b,0,none⟩) 1 cap) (t:=t) (u:=t) (us:=us) (fun hh=>?_) zF hz mg f2 f3 f6 h0 (y:=.agg cs) (ys:=[]) (fun zc lF=>?_) (fun e he=>?_) (by rw [Cu]; exact k2) k3 (by simpa using DD) ia hc.1.1.1 hc.1.1.2 hc.1.2 hc.2
   ·rw [hx];simp only [builtin,oa,aa8,hh,aaX,aa9]
   ·refine ⟨fun hn=>absurd hn (by simp),fun hh zJ zK=>run_append_nil (P:=E.P) w t o.type e' ie zc e2 f1 lF _ _ cap us (by rw [DD,f2]; simp) j9 hh zJ zK,fun _ b sLen fk tL uG GF hg zJ zK=>run_append_grow (P:=E.P) w t o.type e' ie zc e2 f1 lF b sLen fk tL uG GF _ _ cap us (by rw [DD,f2]; simp) j9 hg zJ zK,fun _ g k sLen fk cur hg dM nO=>fS (P:=E.P) w t o.type e' ie e2 f1 g k sLen fk cur hg _ _ cap us (by rw [DD,f2]; simp) j9 k3 dM nO⟩
   ·rcases abk.1 he with rfl|he
    ·exact ⟨rfl,rfl⟩
    ·cases he
  ·cases ha
 ·cases ha
def wD:List AV→Bool
 |[]=>true
 |.list .nil _ [] :: l=>wD l
 |_ :: _=>false
theorem Cw {g:Nat→AV} (hg:∀ j,(g j).cells=[g j]) (hR:∀ j sz c,Rel R w (.list .nil sz []) c→Rel R w (g j) c):∀ {es:List AV} {vs:List Value} (k:Nat),wD es=true→aL R w (an es) vs→aL R w (an ((List.range' k es.length).map g)) vs
 |[],_,_,_,h=>h
 |e :: es,vs,k,hn,h=>by
  unfold wD at hn;split at hn
  ·rename_i h0; cases h0
  ·rename_i sz l h0;cases h0;simp only [an,AV.cells,abi] at h;cases h with
   |cons h1 h2=>
   simp only [aaQ,List.range'_succ,List.map_cons,an,hg,abi];exact .cons (hR k _ _ h1) (Cw hg hR (k+1) hn h2)
  ·cases hn
theorem aY.MI (h:aY E R w β s a) {id:Nat} {es:List AV} {el:TypeId} (hid:nth s.G id=some (.cg es 1 el)) (hn:wD es=true) {g:Nat→AV} (hg:∀ j,(g j).cells=[g j]) (ht:∀ j,(g j).aR=true) (hR:∀ j sz c,Rel R w (.list .nil sz []) c→Rel R w (g j) c) :
  aY E R w β (s.bq (ak s.G id (.cg ((List.range es.length).map g) 1 el))) a∧Step R w β s.boxes R w β s.boxes:=by
 refine ⟨⟨⟨by simp [St.bq,h.g.len],fun i go r h1 h2=>?_,h.g.inj,h.g.wf,h.g.dF,h.g.lo⟩,h.b,h.t,h.n,h.d⟩,Step.refl _ _ _ _⟩;rcases b8 h1 with ⟨rfl,rfl,_⟩|⟨_,h1⟩
 ·have bl:=h.g.obj id _ _ hid h2;have hlen:((List.range es.length).map g).length=es.length:=by simp
  cases r with
  |none=>exact bl.elim
  |bE _=>exact bl.elim
  |aX _=>exact bl.elim
  |a8=>
   have he:es=[]:=bl;subst he;exact rfl
  |tok f b c k=>
   obtain ⟨q1,q2,q3,cur,vs,q4,q5,q6,q7,q8,q9,q10,q11⟩:=bl;refine ⟨q1,by rw [hlen]; exact q2,fun e he=>?_,cur,vs,q4,q5,q6,q7,q8,?_,q10,q11⟩
   ·obtain ⟨j,_,rfl⟩:=List.mem_map.1 he;exact ⟨by rw [hg]; rfl,ht j⟩
   ·rw [List.range_eq_range'];exact Cw hg hR 0 hn q9
 ·exact h.g.obj i go r h1 h2
end
end Go.Am
