/- The abstract machine: what it does is what the model does: append and copy. -/
import Derived.Test.YtegoimldbgdeiaaAmKD
import Derived.Lib.AppendStr
set_option linter.all false
namespace Go.Am
open Go
section fams
variable {E:Env} {R R':ai} {w w':World} {β β':Nat→Nat} {s s':St} {a a':Act} {o:Oper}
theorem vc {α:Type} {l r:List α} {i:Nat} {x:α} (h:nth r i=some x):nth (l++r) (l.length+i)=some x:=by
 rw [aV] at *;rw [List.getElem?_append_right (Nat.le_add_right _ _),Nat.add_sub_cancel_left];exact h
theorem wO {α:Type} {l r:List α} {i:Nat} {x:α} (h:nth l i=some x):nth (l++r) i=some x:=by
 have:=bi h;rw [aV] at *;rw [List.getElem?_append_left this];exact h
theorem eD {α:Type} {l r:List α} {i:Nat} {x:α} (h:nth (l++r) i=some x):nth l i=some x∨∃ j,i=l.length+j∧nth r j=some x:=by
 rw [aV] at h;rcases Nat.lt_or_ge i l.length with bO|A9
 ·rw [List.getElem?_append_left bO] at h;exact .inl (by rw [aV]; exact h)
 ·rw [List.getElem?_append_right A9] at h;exact .inr ⟨i - l.length,by omega,by rw [aV]; exact h⟩
theorem aX.FP (h:aX E R w β s a) {id sz:Nat} {e:TypeId} {fs:List Nat} (hid:nth s.G id=some (.bc fs sz e)) {nfs:List Nat} {nts:List TR} (hl:nts.length=nfs.length)
  (fa:∀ j f t,nth nfs j=some f→nth nts j=some t→Ba R w sz e f t) (sf:∀ j f b c,nth nts j≠some (.tok f b c)) {ro:RO} (bn:nth R.obj id=some ro) :
  ∃ ts,ro=.bc ts∧ts.length=fs.length∧aX E (R.reset id (.bc (ts++nts))) w β (s.bG (aq s.G id (.bc (fs++nfs) sz e))) a∧Step R w β s.boxes (R.reset id (.bc (ts++nts))) w β s.boxes:=by
 have ca:=h.g.obj id _ _ hid bn;cases ro with
 |none=>exact ca.elim
 |bz=>exact ca.elim
 |bK _=>exact ca.elim
 |tok _ _ _ _=>exact ca.elim
 |bc ts=>
 obtain ⟨q1,q2,q3⟩:=ca;have yd:∀ b,RO.has (.bc (ts++nts)) b→RO.has (.bc ts) b:=fun b ⟨j,f,c,hj⟩=>by
  rcases eD hj with hj|⟨i,_,hi⟩
  ·exact ⟨j,f,c,hj⟩
  ·exact absurd hi (sf i f b c)
 have ext:Ext R w (R.reset id (.bc (ts++nts))) w:=⟨fun _ _ h=>h,fun _ _ _=>rfl,fun i r hr=>by
  by_cases e:id=i
  ·subst e;rw [bn] at hr;cases hr;exact ⟨_,ay bn,fun j t hj=>⟨t,wO hj,np.refl t⟩⟩
  ·exact ⟨r,by rw [ai.reset,a8 e]; exact hr,cp.refl r⟩,fh.refl w⟩
 have live:∀ b,Live (R.reset id (.bc (ts++nts))) b→Live R b:=fun b ⟨i,r,h1,h2⟩=>by
  rcases aB bn h1 with ⟨_,rfl⟩|⟨_,h1⟩
  ·exact ⟨id,_,bn,yd b h2⟩
  ·exact ⟨i,r,h1,h2⟩
 refine ⟨ts,rfl,q1,⟨⟨by simp [St.bG,ai.reset,h.g.len],fun i g r h1 h2=>?_,fun i j ri rj b h1 h2 b1 b2=>?_,h.g.wf,fun g cs hg=>(h.g.dV g cs hg).mono ext,h.g.lo⟩,h.b.aZ ext (fun _ _ _=>rfl) (fun _ _ _ _ h=>h) (fun _ _ _ hl=>live _ hl),h.t.mono ext,h.n,h.d.mono ext⟩,?_⟩
 ·rcases aB bn h2 with ⟨rfl,rfl⟩|⟨cz,h2⟩
  ·simp only [St.bG] at h1;rw [ay hid] at h1;cases h1;refine ⟨by simp [q1,hl],fun i j f b c f' c' hi hj=>?_,fun j f t hf ht=>?_⟩
   ·rcases eD hi with hi|⟨_,_,hi⟩
    ·rcases eD hj with hj|⟨_,_,hj⟩
     ·exact q2 i j _ _ _ _ _ hi hj
     ·exact absurd hj (sf _ _ _ _)
    ·exact absurd hi (sf _ _ _ _)
   ·rcases eD hf with E5|⟨k,hk,E5⟩
    ·rcases eD ht with ht|⟨k',jy,ht⟩
     ·exact q3 j f t E5 ht
     ·have:=bi E5;omega
    ·rcases eD ht with ht|⟨k',jy,ht⟩
     ·have:=bi ht;omega
     ·have IY:k=k':=by omega
      subst IY;exact fa k f t E5 ht
  ·simp only [St.bG] at h1;rw [a8 (Ne.symm cz)] at h1;exact (h.g.obj i g r h1 h2).mono ext (fun _ _=>rfl) (fun _ _ _ h=>h)
 ·rcases aB bn h1 with ⟨g3,e1⟩|⟨g3,g1⟩
  ·rcases aB bn h2 with ⟨g4,e2⟩|⟨g4,g2⟩
   ·omega
   ·rw [e1] at b1;exact g3.trans (h.g.inj id j _ _ b bn g2 (yd b b1) b2)
  ·rcases aB bn h2 with ⟨g4,e2⟩|⟨g4,g2⟩
   ·rw [e2] at b2;exact (h.g.inj i id _ _ b g1 bn b1 (yd b b2)).trans g4.symm
   ·exact h.g.inj i j ri rj b g1 g2 b1 b2
 ·refine ⟨ext,rfl,rfl,rfl,Nat.le_refl _,fun _ _ _=>rfl,fun b _ ho=>?_,fun _ _ h _ _=>h⟩;rcases ho with ho|ho
  ·exact .inl (live b ho)
  ·exact .inr ho
theorem bH.step {s1:St} {s2:St} (e:s1.boxes=s.boxes) (st:Step R w β s.boxes R' w β s.boxes) (h:bH E R' w β s1 a o s2):bH E R w β s a o s2:=by
 obtain ⟨nx,x,w',R2,β',h1,h2,h3,h4⟩:=h;rw [e] at h4;exact ⟨nx,x,w',R2,β',h1,h2,h3,st.trans h4⟩
theorem Xa {c:Bool} {α:Type} {a b:α} (h:(bif c then some a else none)=some b):c=true∧a=b:=by
 cases c
 ·cases h
 ·exact ⟨rfl,Option.some.inj h⟩
theorem oL {sz:Nat} {e:TypeId}:∀ {G:List GO} {i j:Nat},jV G sz e i=some j→∃ fs,nth G (j - i)=some (.bc fs sz e)∧i≤j
 |[],i,j,h=>by cases h
 |g :: G,i,j,h=>by
  have step:jV G sz e (i+1)=some j→∃ fs,nth (g :: G) (j - i)=some (.bc fs sz e)∧i≤j:=fun h=>by
   obtain ⟨fs,h1,h2⟩:=oL h;refine ⟨fs,?_,by omega⟩;rw [show j - i=(j - (i+1))+1 by omega];exact h1
  unfold jV at h;split at h
  ·rename_i jW;cases jW
  ·rename_i jW;obtain ⟨rfl,rfl⟩:=List.cons.inj jW;split at h
   ·rename_i j' hj;cases h;exact step hj
   ·obtain ⟨hc,rfl⟩:=Xa h
    ·rw [Bool.and_eq_true] at hc;have h1:=Nat.eq_of_beq_eq_true hc.1;have h2:=Nat.eq_of_beq_eq_true hc.2;subst h1 h2;exact ⟨_,by rw [Nat.sub_self]; rfl,Nat.le_refl _⟩
  ·rename_i x G1 _ _ _ hn jW;obtain ⟨rfl,rfl⟩:=List.cons.inj jW;exact step h
theorem aX.HF {s0:St} {d:Option Tmp} {x y:AV} (h:aX E R w β (s0.put d (.v x)) a) (hw:∀ c,Rel R w x c→Rel R w y c):aX E R w β (s0.put d (.v y)) a:=by
 cases d with
 |none=>exact h
 |some d=>
  simp only [St.put] at h ⊢;cases hb:Nat.blt d s0.n with
  |false=>rw [hb] at h; exact h
  |true=>
   rw [hb] at h;refine ⟨h.g,h.b,fun i hi=>?_,h.n,h.d⟩;by_cases e:d=i
   ·subst e;rw [aA];obtain ⟨c,k1,k2⟩:=h.t d (by rw [aA]; simp);rw [aA] at k2;exact ⟨c,k1,hw c k2⟩
   ·rw [aN e] at hi ⊢;have:=h.t i (by rw [aN e]; exact hi);rw [aN e] at this;exact this
theorem bH.HF {s0:St} {x y:AV} (h:bH E R w β s a o (s0.put o.dst (.v x))) (hw:∀ R' w',Ext R w R' w'→∀ c,Rel R' w' x c→Rel R' w' y c):bH E R w β s a o (s0.put o.dst (.v y)):=by
 obtain ⟨nx,v,w',R',β',h1,h2,h3,h4⟩:=h;refine ⟨nx,v,w',R',β',h1,h2,h3.HF (hw R' w' h4.ext),?_⟩;rw [aT] at h4 ⊢;exact h4
end fams
section ops
variable {E:Env} {R:ai} {w:World} {β:Nat→Nat} {s:St} {a:Act} {o:Oper}
theorem fM {k:LK} {sz esz:Nat} {es:List AV} {c:Value} (h:Rel R w (.list k sz es) c) (fb:es=[]∨sz=esz) :
  jk esz es∧∃ vs,aL R w (aw es) vs∧(∀ v∈vs,v.oneCell'=true)∧vs.length=es.length * esz ∧
   ((es=[]∧vs=[]∧∃ ad,c=.slice ad 0 0∧(ad=none∨k=.ea))∨∃ b o' cap,c=.slice (some ⟨b,o',none⟩) es.length cap∧es.length≤cap∧Cd R k b o' es.length cap∧(∀ j v,vs[j]?=some v→w.cell? ((⟨b,o',none⟩:Addr).add j)=some v)∧iA R w b o' esz es):=by
 cases h with
 |jD=>exact ⟨fun e he=>by simp at he,[],.nil,by simp,by simp,.inl ⟨rfl,rfl,_,rfl,.inl rfl⟩⟩
 |jl=>exact ⟨fun e he=>by simp at he,[],.nil,by simp,by simp,.inl ⟨rfl,rfl,_,rfl,.inl rfl⟩⟩
 |nj=>exact ⟨fun e he=>by simp at he,[],.nil,by simp,by simp,.inl ⟨rfl,rfl,_,rfl,.inr rfl⟩⟩
 |kL=>exact ⟨fun e he=>by simp at he,[],.nil,by simp,by simp,.inl ⟨rfl,rfl,_,rfl,.inl rfl⟩⟩
 |mD=>exact ⟨fun e he=>by simp at he,[],.nil,by simp,by simp,.inl ⟨rfl,rfl,_,rfl,.inl rfl⟩⟩
 | @list _ _ _ b o' len cap hr hlen gC IY=>
  subst hlen;have lF:iA R w b o' esz es:=by
   rcases fb with rfl|rfl
   ·exact .nil
   ·exact hr
  obtain ⟨g0,vs,g1,g2,g3,g4⟩:=xW lF;refine ⟨g0,vs,g1,g2,by rw [← g1.length,cS g0],.inr ⟨b,o',cap,rfl,gC,IY,fun j v hv=>?_,lF⟩⟩;rw [cr];exact g3 j v hv
theorem yh {b esz:Nat} {es:List AV} {vs:List Value} {w:World} {R:ai} (h0:jk esz es) (h:aL R w (aw es) vs) (h1:∀ v∈vs,v.oneCell'=true)
  (hc:∀ j v,vs[j]?=some v→w.cell? ⟨b,j,none⟩=some v) (hI:∀ j,j < vs.length→R.I b j):iA R w b 0 esz es:=
 lm h0 (fg.make h h1 (fun j v hv=>by rw [Nat.zero_add]; exact hc j v hv) (fun j hj=>by rw [Nat.zero_add]; exact hI j (by rw [← h.length]; exact hj)))
theorem mL {sz:Nat} {l r:List AV} (h:jk sz l) (k:jk sz r):jk sz (l++r):=fun e he=>by
 rcases List.mem_append.1 he with he|he
 ·exact h e he
 ·exact k e he
theorem jH {l r:List Value} (h:∀ v∈l,v.oneCell'=true) (k:∀ v∈r,v.oneCell'=true):∀ v∈l++r,v.oneCell'=true:=fun v hv=>by
 rcases List.mem_append.1 hv with hv|hv
 ·exact h v hv
 ·exact k v hv
structure V6 (P:Program) (w:World) (t u ty e:TypeId) (i:TypeInfo) (z:Value) (cy:Value) (n:Nat) (us:List Value):Prop where
 zero:n=0→∀ base len cap,len≤cap→(Builtin.append_ #[t,u] ty #[.slice base len cap,cy]).run P w=.ok (.slice base len cap) w
 nil:0 < n→(n:Int)≤9223372036854775807→n * i.bytes≤281474976710656→(Builtin.append_ #[t,u] ty #[.slice none 0 0,cy]).run P w =
   .ok (.slice (some ⟨w.heap.size,0,none⟩) n (grownCap w n 0 e)) (w.drew.alloc (.cells (us.toArray++Builtin.zeroCells z.cells (grownCap w n 0 e - n)) e))
 grow:0 < n→∀ (b:Addr) (sLen fS:Nat) (yi:List Value),yi.length=sLen * i.size→(∀ j v,yi[j]?=some v→w.cell? (b.add j)=some v)→fS < sLen+n→((sLen+n:Nat):Int)≤9223372036854775807→Builtin.nextslicecap (sLen+n) fS * i.bytes≤281474976710656 →
   (Builtin.append_ #[t,u] ty #[.slice (some b) sLen fS,cy]).run P w=.ok (.slice (some ⟨w.heap.size,0,none⟩) (sLen+n) (grownCap w (sLen+n) fS e))
    (w.drew.alloc (.cells (yi.toArray++us.toArray++Builtin.zeroCells z.cells (grownCap w (sLen+n) fS e - (sLen+n))) e))
 room:0 < n→∀ (g k sLen fS:Nat) (cur:Array Value),w.heap[g]?=some (.cells cur e (0,0))→sLen+n≤fS→k+sLen * i.size+us.length≤cur.size →
   (Builtin.append_ #[t,u] ty #[.slice (some ⟨g,k,none⟩) sLen fS,cy]).run P w=.ok (.slice (some ⟨g,k,none⟩) (sLen+n) fS) (w.setRow g (cur.toList.take (k+sLen * i.size)++us++cur.toList.drop (k+sLen * i.size+us.length)).toArray)
theorem V6.QB {P:Program} {w:World} {t u ty e:TypeId} {i:TypeInfo} {z:Value} {cy:Value} {n:Nat} {us:List Value} (h:V6 P w t u ty e i z cy n us) (hn:0 < n) (g sLen fS:Nat) (cur:Array Value) (h1:w.heap[g]?=some (.cells cur e (0,0))) (h2:sLen+n≤fS) (h3:sLen * i.size+us.length≤cur.size) :
  (Builtin.append_ #[t,u] ty #[.slice (some ⟨g,0,none⟩) sLen fS,cy]).run P w=.ok (.slice (some ⟨g,0,none⟩) (sLen+n) fS) (w.setRow g (cur.toList.take (sLen * i.size)++us++cur.toList.drop (sLen * i.size+us.length)).toArray):=by
 have:=h.room hn g 0 sLen fS cur h1 h2 (by omega);rw [Nat.zero_add] at this;exact this
theorem jI {P:Program} (w:World) (t ty e:TypeId) (i:TypeInfo) (ht:P.underlying t=some (.slice e)) (hi:P.info? e=some i)
  (g k sLen fS:Nat) (cur:Array Value) (hg:w.heap[g]?=some (.cells cur e (0,0)))
  (a:Addr) (m c:Nat) (news:List Value) (hl:news.length=m * i.size) (Xb:∀ j u,news[j]?=some u→w.cell? (a.add j)=some u) (h1:∀ u∈news,u.oneCell'=true)
  (fc:sLen+m≤fS) (pE:k+sLen * i.size+news.length≤cur.size) :
  (Builtin.append_ #[t,t] ty #[.slice (some ⟨g,k,none⟩) sLen fS,.slice (some a) m c]).run P w =
   .ok (.slice (some ⟨g,k,none⟩) (sLen+m) fS) (w.setRow g (cur.toList.take (k+sLen * i.size)++news++cur.toList.drop (k+sLen * i.size+news.length)).toArray):=by
 have hf:=run_firstCells_some (P:=P) w i.size m a m c news hl Xb;have e9:=run_storeCells_at P g (k+sLen * i.size) e news 0 cur w hg (by simpa using pE) h1;simp only [Nat.add_zero] at e9;simp [Builtin.append_,run_underlying ht,sizeOf,typeInfo,hi,Builtin.lenOf,fc,hf,Addr.add_lit,e9]
theorem nO {P:Program} (w:World) (t u ty e:TypeId) (i:TypeInfo) (ht:P.underlying t=some (.slice e)) (hu:P.underlying u=some .string) (hi:P.info? e=some i) (FC:i.size=1)
  (g k sLen fS:Nat) (cur:Array Value) (hg:w.heap[g]?=some (.cells cur e (0,0))) (s:ByteArray)
  (fc:sLen+s.size≤fS) (pE:k+sLen+s.size≤cur.size) :
  (Builtin.append_ #[t,u] ty #[.slice (some ⟨g,k,none⟩) sLen fS,.string s]).run P w =
   .ok (.slice (some ⟨g,k,none⟩) (sLen+s.size) fS) (w.setRow g (cur.toList.take (k+sLen)++Lib.strCells s++cur.toList.drop (k+sLen+s.size)).toArray):=by
 have hf:=Lib.run_firstCells_string (P:=P) w 1 s;have e9:=run_storeCells_at P g (k+sLen) e (Lib.strCells s) 0 cur w hg (by simpa [Lib.strCells_length] using pE) (Lib.strCells_oneCell s);simp only [Nat.add_zero,Lib.strCells_length] at e9;simp [Builtin.append_,run_underlying ht,run_underlying hu,sizeOf,typeInfo,hi,FC,Builtin.lenOf,fc,hf,Addr.add_lit,e9]
theorem pz (h:aX E R w β s a) {t u:TypeId} {id f off sz len:Nat} {y:AV} {ys:List AV} {cx cy:Value} {us:List Value}
  (gD:∀ {c:Value} {w':World},(Builtin.append_ #[t,u] o.type #[cx,cy]).run E.P w=.ok c w'→(execOp a.eval o).run E.P w=.ok (.value c) w')
  {elem esz eb:Nat} {z:AV} (E6:1≤eb) (hz:z.cells.length=esz) (pK:z.aS=true)
  {ie:TypeInfo} (f2:ie.size=esz) (f3:ie.bytes=eb) (f6:gV ie=some z)
  (h0:Rel R w (.cZ id f off sz len) cx) (hA:∀ zc:Value,ie.zero=some zc→V6 E.P w t u o.type elem ie zc cy (y :: ys).length us)
  (y0:dw esz (y :: ys)) (y1:aL R w (aw (y :: ys)) us) (y2:∀ v∈us,v.oneCell'=true) (y3:us.length=(y :: ys).length * esz)
  {es:List AV} (hid:nth s.G id=some (.bo es esz elem)) (hf:f=es.length) (ho0:off=0) (wI:len=f) (hb:(es.length+(y :: ys).length) * eb≤140737488355328) :
  bH E R w β s a o ((s.bG (aq s.G id (.bo (es++(y :: ys)) esz elem))).put o.dst (.v (.cZ id (es.length+(y :: ys).length) 0 esz (es.length+(y :: ys).length)))):=by
 obtain ⟨zc,pD,E4⟩:=dE f6;have hA:=hA zc pD;obtain ⟨d1,d2⟩:=Rel.cells (E4 R w) pK;have tc:zc.cells.size=esz:=by rw [← hz,d1.length]; simp
 have oM:0 < (y :: ys).length:=by simp
 have hm:es.length+(y :: ys).length≤140737488355328:=Nat.le_trans (Nat.le_mul_of_pos_right _ E6) hb;have DC:(es++(y :: ys)).length=es.length+(y :: ys).length:=List.length_append
 -- where a new block has been made
 have fresh:∀ {xs:List Value} {old:Nat} {r0:RO},nth R.obj id=some r0→(∀ b c,cp r0 (.tok (es.length+(y :: ys).length) b c 0))→dw esz es→aL R w (aw es) xs→(∀ v∈xs,v.oneCell'=true)→xs.length=es.length * esz →
   (Builtin.append_ #[t,u] o.type #[cx,cy]).run E.P w=.ok (.slice (some ⟨w.heap.size,0,none⟩) (es.length+(y :: ys).length) (grownCap w (es.length+(y :: ys).length) old elem)) (w.drew.alloc (.cells (xs.toArray++us.toArray++Builtin.zeroCells zc.cells (grownCap w (es.length+(y :: ys).length) old elem - (es.length+(y :: ys).length))) elem)) →
   bH E R w β s a o ((s.bG (aq s.G id (.bo (es++(y :: ys)) esz elem))).put o.dst (.v (.cZ id (es.length+(y :: ys).length) 0 esz (es.length+(y :: ys).length)))):=by
  intro xs old r0 bn hle Di Xc wH Bk bB;have A9:=grownCap_ge w (es.length+(y :: ys).length) old elem;obtain ⟨r1,r2⟩:=h.Sc (cur:=xs.toArray++us.toArray++Builtin.zeroCells zc.cells (grownCap w (es.length+(y :: ys).length) old elem - (es.length+(y :: ys).length))) (vs:=xs++us) (es':=es++(y :: ys)) hid bn (by rw [DC]; exact hle) (by rw [DC]; exact A9) (grownCap_le_maxLen w _ old elem (by unfold maxLen; omega)) (by
   simp only [Array.size_append,List.size_toArray,size_zeroCells,tc,Bk,y3,← Nat.add_mul];congr 1;omega) (te Di y0) (by rw [cJ]; exact Xc.append y1) (jH wH y2) (by
   rw [DC];simp only [Array.toList_append];exact List.take_left' (by rw [List.length_append,Bk,y3,Nat.add_mul]))
  rw [DC] at r1 r2;refine ⟨_,_,_,_,β,gD bB,.inl rfl,r1.put o.dst ?_,by rw [aT]; exact r2⟩;exact Rel.cZ (ay bn) ⟨Nat.le_refl _,fun _=>⟨rfl,Nat.zero_add _,.inl (Nat.zero_mul _).symm⟩⟩ A9
 cases h0 with
 | @jE _ _ ro bn hon=>
  have ca:=h.g.obj id _ _ hid bn;have he0:es=[]:=List.eq_nil_of_length_eq_zero hf.symm;subst he0;cases ro with
  |none=>exact ca.elim
  |bK _=>exact ca.elim
  |bc _=>exact ca.elim
  |tok f' g c k0=>
   obtain ⟨_,rfl,_⟩:=ca;simp [ni] at hon
  |bz=>
   simp only [List.length_nil] at hb;have bB:=hA.nil oM (by omega) (by rw [f3]; rw [Nat.zero_add] at hb; omega);exact fresh (xs:=[]) (old:=0) bn (fun b c=>by simp only [cp]; omega) (fun e he=>by simp at he) .nil (by simp) (by simp) (by simpa using bB)
 | @cZ _ _ _ _ _ cap b o' ro bn fa gC=>
  subst hf; subst ho0; subst wI;obtain ⟨b',c',cur,vs,rfl,g1,g2,g3,g4,g5,g6,g7,g8,g9⟩:=oK h.g hid bn (fun k=>by subst k; exact fa);obtain ⟨rfl,FQ,Dl⟩:=fa.2 rfl;rw [Nat.zero_add] at FQ;subst FQ;have Qy:vs.length=es.length * esz:=by rw [← g7.length,cT g1]
  have ke:∀ j v,vs[j]?=some v→cur[j]?=some v:=fun j v hj=>by
   rw [← g9,List.getElem?_take] at hj;split at hj
   ·rw [← Array.getElem?_toList]; exact hj
   ·cases hj
  by_cases fc:es.length+(y :: ys).length≤cap
  ·have sb:o'=0:=by
    rcases Dl with Dl|Dl
    ·rw [Dl,Nat.zero_mul]
    ·rw [List.length_cons] at fc; omega
   subst sb;have hle:(es.length+(y :: ys).length) * esz≤cap * esz:=Nat.mul_le_mul_right _ fc;have bB:=hA.QB oM b es.length cap cur g2 fc (by rw [f2,y3,← Nat.add_mul,g5]; exact hle);rw [f2] at bB;have jX:cur.toList.length=cap * esz:=by rw [show cur.toList.length=cur.size from Array.length_toList,g5]
   obtain ⟨r1,r2⟩:=h.Of (cur2:=(cur.toList.take (es.length * esz)++us++cur.toList.drop (es.length * esz+us.length)).toArray) (vs:=vs++us) (es':=es++(y :: ys)) hid bn (by rw [DC]; omega) (by rw [DC]; exact fc) g2 (by
    rw [List.size_toArray,← Array.length_toList];simp only [List.length_append,List.length_take,List.length_drop,y3,jX];rw [Nat.add_mul] at hle;omega) (te g1 y0) (by rw [cJ]; exact g7.append y1) (jH g8 y2) (by
    rw [DC,List.toList_toArray,g9];exact List.take_left' (by rw [List.length_append,Qy,y3,Nat.add_mul]))
   rw [DC] at r1 r2;refine ⟨_,_,_,_,β,gD bB,.inl rfl,r1.put o.dst ?_,by rw [aT]; exact r2⟩;exact Rel.cZ (ay bn) ⟨Nat.le_refl _,fun _=>⟨rfl,Nat.zero_add _,.inl (Nat.zero_mul _).symm⟩⟩ fc
  ·have bB:=hA.grow oM ⟨b,o',none⟩ es.length cap vs (by rw [Qy,f2]) (fun j v hj=>by
    rw [cr];have RV:=(List.getElem?_eq_some_iff.1 hj).1;have sb:o'=0:=by
     rcases Dl with Dl|Dl
     ·rw [Dl,Nat.zero_mul]
     ·have:es.length=0:=by omega
      rw [Qy,this] at RV;omega
    subst sb;rw [Nat.zero_add,cell_of_row w b j cur elem (0,0) g2];exact ke j v hj) (by omega) (by omega) (growslice_fits (by omega) (by rw [f3]; exact hb))
   exact fresh (xs:=vs) (old:=cap) bn (fun b c=>⟨by omega,fun e=>by omega⟩) g1 g7 g8 Qy bB
theorem nP (h:aX E R w β s a) {t u:TypeId} {id j:Nat} {es:List AV} {y:AV} {ys:List AV} {cx cy:Value} {us:List Value}
  (gD:∀ {c:Value} {w':World},(Builtin.append_ #[t,u] o.type #[cx,cy]).run E.P w=.ok c w'→(execOp a.eval o).run E.P w=.ok (.value c) w')
  {elem esz eb:Nat} {z:AV} (E6:1≤eb) (hz:z.cells.length=esz) (pK:z.aS=true)
  {ie:TypeInfo} (f2:ie.size=esz) (f3:ie.bytes=eb) (f6:gV ie=some z)
  (h0:Rel R w (.list (.bc id j) esz es) cx) (hA:∀ zc:Value,ie.zero=some zc→V6 E.P w t u o.type elem ie zc cy (y :: ys).length us)
  (y0:jk esz (y :: ys)) (y1:aL R w (aw (y :: ys)) us) (y2:∀ v∈us,v.oneCell'=true) (y3:us.length=(y :: ys).length * esz)
  {fs:List Nat} (iB:nth s.G id=some (.bc fs esz elem)) (xj:nth fs j=some es.length) (hb:(es.length+(y :: ys).length) * eb≤140737488355328) :
  bH E R w β s a o ((s.bG (aq s.G id (.bc (aq fs j (es.length+(y :: ys).length)) esz elem))).put o.dst (.v (.list (.bc id j) esz (es++(y :: ys))))):=by
 obtain ⟨zc,pD,E4⟩:=dE f6;have hA:=hA zc pD;obtain ⟨d1,d2⟩:=Rel.cells (E4 R w) pK;have tc:zc.cells.size=esz:=by rw [← hz,d1.length]; simp
 have oM:0 < (y :: ys).length:=by simp
 have hm:es.length+(y :: ys).length≤140737488355328:=Nat.le_trans (Nat.le_mul_of_pos_right _ E6) hb;obtain ⟨x0,xs,x1,x2,x3,x4⟩:=fM (esz:=esz) h0 (.inr rfl);obtain ⟨ro,bn⟩:∃ ro,nth R.obj id=some ro:=by
  cases h0 with
  |mD q _=>exact ⟨_,q⟩
  |list _ _ _ hk=>obtain ⟨ro,q,_⟩:=hk; exact ⟨ro,q⟩
 have ca:=h.g.obj id _ _ iB bn;cases ro with
 |none=>exact ca.elim
 |bz=>exact ca.elim
 |bK _=>exact ca.elim
 |tok _ _ _ _=>exact ca.elim
 |bc ts=>
 have ca:xN R w esz elem fs ts:=ca;have hjl:j < ts.length:=by rw [ca.1]; exact bi xj
 obtain ⟨tr,ht⟩:∃ tr,nth ts j=some tr:=⟨ts[j],by rw [aV]; exact List.getElem?_eq_getElem hjl⟩;have pL:=ca.2.2 j _ _ xj ht;have DD:∀ i f b c,nth ts i=some (.tok f b c)→b < w.heap.size:=fun i f b c hi=>h.g.bS ⟨id,_,bn,i,f,c,hi⟩
 -- where a new block has been made
 have fresh:∀ {old:Nat},(∀ b c,np tr (.tok (es.length+(y :: ys).length) b c)) →
   (Builtin.append_ #[t,u] o.type #[cx,cy]).run E.P w=.ok (.slice (some ⟨w.heap.size,0,none⟩) (es.length+(y :: ys).length) (grownCap w (es.length+(y :: ys).length) old elem)) (w.drew.alloc (.cells (xs.toArray++us.toArray++Builtin.zeroCells zc.cells (grownCap w (es.length+(y :: ys).length) old elem - (es.length+(y :: ys).length))) elem)) →
   bH E R w β s a o ((s.bG (aq s.G id (.bc (aq fs j (es.length+(y :: ys).length)) esz elem))).put o.dst (.v (.list (.bc id j) esz (es++(y :: ys))))):=by
  intro old hle bB;have A9:=grownCap_ge w (es.length+(y :: ys).length) old elem;have hcm:=grownCap_le_maxLen w (es.length+(y :: ys).length) old elem (by unfold maxLen; omega);have QC:(xs.toArray++us.toArray++Builtin.zeroCells zc.cells (grownCap w (es.length+(y :: ys).length) old elem - (es.length+(y :: ys).length))).size=grownCap w (es.length+(y :: ys).length) old elem * esz:=by
   simp only [Array.size_append,List.size_toArray,size_zeroCells,tc,x3,y3,← Nat.add_mul];congr 1;omega
  generalize jG:xs.toArray++us.toArray++Builtin.zeroCells zc.cells (grownCap w (es.length+(y :: ys).length) old elem - (es.length+(y :: ys).length))=cur at bB QC;have o1:=One.drew w (.cells cur elem);obtain ⟨r1,r2⟩:=h.R8 o1 (n:=(es.length+(y :: ys).length) * esz) (r1:=.bc (aq ts j (.tok (es.length+(y :: ys).length) w.heap.size (grownCap w (es.length+(y :: ys).length) old elem)))) (go:=.bc (aq fs j (es.length+(y :: ys).length)) esz elem) iB bn
   (uS.set ht (hle _ _)) (fun b hb=>HB hb) (xN.set ca ⟨rfl,cur,o1.new,A9,hcm,QC,fun o' sb hi=>by
    rcases hi with hi|⟨_,hi⟩
    ·have:=h.g.wf _ _ hi;omega
    ·omega⟩ (fun i f c hi=>absurd (DD i f _ c hi) (Nat.lt_irrefl _)) (fun i f b c _ hi=>⟨o1.old b (DD i f b c hi),fun o' sb=>by
     rcases sb with sb|⟨sb,_⟩
     ·exact sb
     ·have:=DD i f b c hi;omega⟩))
  have e:=r2.ext;refine ⟨_,_,_,_,β,gD bB,.inl rfl,r1.put o.dst ?_,by rw [aT]; exact r2⟩;refine Rel.list (yh (vs:=xs++us) (mL x0 y0) (by rw [cJ]; exact (x1.mono e).append (y1.mono e)) (jH x2 y2) (fun j v hj=>?_) (fun j hj=>.inr ⟨rfl,by rw [List.length_append,x3,y3,← Nat.add_mul] at hj; exact hj⟩)) (by simp) A9 ⟨_,ay bn,_,ay ht,Nat.le_refl _,fun _=>⟨rfl,rfl,rfl⟩⟩;rw [cell_of_row _ _ j _ _ _ o1.new,← jG];have bO:=(List.getElem?_eq_some_iff.1 hj).1;rw [← Array.getElem?_toList];simp only [Array.toList_append,List.append_assoc];rw [← List.append_assoc,List.getElem?_append_left bO];exact hj
 rcases x4 with ⟨rfl,rfl,ad,rfl,hd⟩|⟨b,o',cap,rfl,Sd,xk,rM,xE⟩
 ·obtain rfl:ad=none:=by
   rcases hd with hd|hd
   ·exact hd
   ·cases hd
  simp only [List.length_nil] at hb pL;have bB:=hA.nil oM (by simp only [List.length_nil] at hm; omega) (by rw [f3]; rw [Nat.zero_add] at hb; omega);cases tr with
  |bz=>exact fresh (old:=0) (fun b c=>by simp only [np,List.length_cons]; omega) (by simpa using bB)
  |full f'=>
   have pL:f'=0:=pL;subst pL;exact fresh (old:=0) (fun b c=>by simp only [np,List.length_cons]; omega) (by simpa using bB)
  |tok f' g c=>
   obtain ⟨pL,_⟩:=pL;subst pL;exact fresh (old:=0) (fun b c=>by simp only [np,List.length_cons,List.length_nil]; omega) (by simpa using bB)
 ·obtain ⟨nF,Xd,vK⟩:=xk;rw [bn] at Xd;cases Xd;obtain ⟨t',q3,vK⟩:=vK;rw [ht] at q3;cases q3;cases tr with
  |bz=>exact vK.elim
  |full f'=>
   have hf:f'=es.length:=pL;subst hf;have gC:=vK.2 rfl;subst gC;have bB:=hA.grow oM ⟨b,o',none⟩ es.length es.length xs (by rw [x3,f2]) rM (by omega) (by omega) (growslice_fits (by omega) (by rw [f3]; exact hb));exact fresh (fun b c=>by simp only [np]; omega) bB
  |tok f' g c=>
   obtain ⟨rfl,cur,jG,k1,k3,k4,k5⟩:=pL;obtain ⟨rfl,rfl,rfl⟩:=vK.2 rfl;by_cases fc:es.length+(y :: ys).length≤cap
   ·have hle:(es.length+(y :: ys).length) * esz≤cap * esz:=Nat.mul_le_mul_right _ fc;have bB:=hA.QB oM b es.length cap cur jG fc (by rw [f2,y3,← Nat.add_mul,k4]; exact hle);rw [f2] at bB;generalize K8:(cur.toList.take (es.length * esz)++us++cur.toList.drop (es.length * esz+us.length)).toArray=cur2 at bB;have jX:cur.toList.length=cap * esz:=by rw [show cur.toList.length=cur.size from Array.length_toList,k4]
    have hll:es.length * esz≤cap * esz:=Nat.mul_le_mul_right _ k1;have DE:cur2.size=cap * esz:=by
     rw [← K8,List.size_toArray];simp only [List.length_append,List.length_take,List.length_drop,y3,jX];rw [Nat.add_mul] at hle;omega
    have ye:∀ o',R.I b o'→cur2[o']?=cur[o']?:=fun o' hi=>by
     have ho:o' < es.length * esz:=Nat.lt_of_not_le fun hle=>k5 o' hle hi
     rw [← K8,List.append_assoc];simp only [List.getElem?_toArray];rw [List.getElem?_append_left (by rw [List.length_take]; omega),List.getElem?_take,if_pos ho,Array.getElem?_toList]
    have new:(w.setRow b cur2).heap[b]?=some (.cells cur2 elem (0,0)):=setRow_heap w b cur cur2 elem (0,0) jG;obtain ⟨r0,r1,r2⟩:=h.Oc (cur2:=cur2) (n:=(es.length+(y :: ys).length) * esz) (r1:=.bc (aq ts j (.tok (es.length+(y :: ys).length) b cap))) (go:=.bc (aq fs j (es.length+(y :: ys).length)) esz elem) iB bn ⟨j,_,_,ht⟩
     (uS.set ht ⟨by omega,fun e=>by omega⟩) (fun b' kM=>(HB kM).elim (fun e=>by rw [e]; exact ⟨j,_,_,ht⟩) (fun x=>x)) jG ye (fun _=>xN.set ca ⟨rfl,cur2,new,fc,k3,DE,fun o' sb hi=>by
      rcases hi with hi|⟨_,hi⟩
      ·exact k5 o' (Nat.le_trans (Nat.mul_le_mul_right _ (Nat.le_add_right _ _)) sb) hi
      ·omega⟩ (fun i f c hi=>ca.2.1 i j _ _ _ _ _ hi ht) (fun i f b' c cz hi=>by
       have N3:b'≠b:=fun e=>by subst e; exact cz (ca.2.1 i j _ _ _ _ _ hi ht)
       refine ⟨setRow_other w b b' cur2 N3,fun o' sb=>?_⟩;rcases sb with sb|⟨sb,_⟩
       ·exact sb
       ·exact absurd sb N3))
    refine ⟨_,_,_,_,β,gD bB,.inl rfl,r1.put o.dst ?_,by rw [aT]; exact r2⟩;have hxs:cur.toList.take (es.length * esz)=xs:=by
     have Nx:xs.length=es.length * esz:=x3;apply List.ext_getElem?;intro j;rw [List.getElem?_take];split
     ·rename_i hj;have RV:j < xs.length:=by omega
      have wG:=rM j xs[j] (List.getElem?_eq_getElem RV);rw [cr,Nat.zero_add,cell_of_row w b j cur elem (0,0) jG] at wG;rw [Array.getElem?_toList,wG,List.getElem?_eq_getElem RV]
     ·rw [List.getElem?_eq_none (by omega)]
    refine Rel.list (yh (vs:=xs++us) (mL x0 y0) (by rw [cJ]; exact (x1.mono r0).append (y1.mono r0)) (jH x2 y2) (fun j v hj=>?_) (fun j hj=>.inr ⟨rfl,by rw [List.length_append,x3,y3,← Nat.add_mul] at hj; exact hj⟩)) (by simp) fc ⟨_,ay bn,_,ay ht,Nat.le_refl _,fun _=>⟨rfl,rfl,rfl⟩⟩;rw [cell_of_row _ _ j _ _ _ new,← K8,hxs];simp only [List.getElem?_toArray];rw [List.getElem?_append_left (List.getElem?_eq_some_iff.1 hj).1];exact hj
   ·have bB:=hA.grow oM ⟨b,0,none⟩ es.length cap xs (by rw [x3,f2]) rM (by omega) (by omega) (growslice_fits (by omega) (by rw [f3]; exact hb));exact fresh (fun b c=>⟨by omega,fun e=>by omega⟩) bB
theorem wP (h:aX E R w β s a) {t u:TypeId} {id j:Nat} {es:List AV} {y:AV} {ys:List AV} {cx cy:Value} {us:List Value}
  (gD:∀ {c:Value} {w':World},(Builtin.append_ #[t,u] o.type #[cx,cy]).run E.P w=.ok c w'→(execOp a.eval o).run E.P w=.ok (.value c) w')
  {elem esz eb:Nat} {z:AV} (E6:1≤eb) (hz:z.cells.length=esz) (pK:z.aS=true)
  {ie:TypeInfo} (f2:ie.size=esz) (f3:ie.bytes=eb) (f6:gV ie=some z)
  (h0:Rel R w (.list (.bc id j) esz es) cx) (hA:∀ zc:Value,ie.zero=some zc→V6 E.P w t u o.type elem ie zc cy (y :: ys).length us)
  (y0:jk esz (y :: ys)) (y1:aL R w (aw (y :: ys)) us) (y2:∀ v∈us,v.oneCell'=true) (y3:us.length=(y :: ys).length * esz)
  {fs:List Nat} (iB:nth s.G id=some (.bc fs esz elem)) (xj:NW fs j es.length=true) (hb:(es.length+(y :: ys).length) * eb≤140737488355328) :
  bH E R w β s a o ((s.bG (aq s.G id (.bc (IM fs j (es.length+(y :: ys).length)) esz elem))).put o.dst (.v (.list (.bc id j) esz (es++(y :: ys))))):=by
 unfold NW at xj;rw [Bool.or_eq_true,decide_eq_true_eq,Bool.and_eq_true] at xj;rcases xj with xj|⟨hj,hl⟩
 ·have cz:Nat.beq j fs.length=false:=by
   cases hb:Nat.beq j fs.length with
   |false=>rfl
   |true=>
    have:=Nat.eq_of_beq_eq_true hb;have:=bi xj;omega
  unfold IM;rw [cz];exact nP h gD E6 hz pK f2 f3 f6 h0 hA y0 y1 y2 y3 iB xj hb
 ·have pF:IM fs j (es.length+(y :: ys).length)=fs++[es.length+(y :: ys).length]:=by
   unfold IM;rw [hj];rfl
  rw [pF];have hj:=Nat.eq_of_beq_eq_true hj;have hl:=Nat.eq_of_beq_eq_true hl;subst hj;have bO:=bi iB;rw [← h.g.len] at bO;obtain ⟨ro,bn⟩:∃ ro,nth R.obj id=some ro:=⟨R.obj[id],by rw [aV]; exact List.getElem?_eq_getElem bO⟩;obtain ⟨ts,rfl,z1,z2,z3⟩:=h.FP iB (nfs:=[0]) (nts:=[.bz]) rfl (fun j f t h1 h2=>by
   cases j with
   |zero=>simp only [nth] at h1 h2; cases h1; cases h2; exact rfl
   |succ j=>simp [nth] at h1) (fun j f b c hj=>by
   cases j with
   |zero=>simp only [nth] at hj; cases hj
   |succ j=>simp [nth] at hj) bn
  have key:=nP z2 gD E6 hz pK f2 f3 f6 (h0.mono z3.ext) hA y0 (y1.mono z3.ext) y2 y3 (fs:=fs++[0]) (ay iB) (by rw [hl]; exact cI _ _) hb;have e1:aq (fs++[0]) fs.length (es.length+(y :: ys).length)=fs++[es.length+(y :: ys).length]:=by
   rw [dQ,List.set_append_right _ _ (Nat.le_refl _),Nat.sub_self];rfl
  have e2:∀ x y:GO,aq (aq s.G id x) id y=aq s.G id y:=fun x y=>by rw [dQ,dQ,dQ,List.set_set]
  rw [e1] at key;refine bH.step rfl z3 ?_;have e3:((s.bG (aq s.G id (.bc (fs++[0]) esz elem))).bG (aq (s.bG (aq s.G id (.bc (fs++[0]) esz elem))).G id (.bc (fs++[es.length+(y :: ys).length]) esz elem)))=s.bG (aq s.G id (.bc (fs++[es.length+(y :: ys).length]) esz elem)):=by
   simp only [St.bG,e2]
  rw [e3] at key;exact key
theorem jJ (h:aX E R w β s a) {t u:TypeId} {x:AV} {ys:List AV} {cx cy:Value} {us:List Value}
  (gD:∀ {c:Value} {w':World},(Builtin.append_ #[t,u] o.type #[cx,cy]).run E.P w=.ok c w'→(execOp a.eval o).run E.P w=.ok (.value c) w')
  {i:TI} {elem esz eb:Nat} {ag:Bool} {z:AV} (hk:i.k=.sl elem esz ag eb (some z)) (E6:1≤eb) (hz:z.cells.length=esz) (pK:z.aS=true)
  {ie:TypeInfo} (f1:E.P.info? elem=some ie) (f2:ie.size=esz) (f3:ie.bytes=eb) (f6:gV ie=some z)
  (h0:Rel R w x cx) (hA:∀ zc:Value,ie.zero=some zc→V6 E.P w t u o.type elem ie zc cy ys.length us)
  (y0:jk esz ys) (y1:aL R w (aw ys) us) (y2:∀ v∈us,v.oneCell'=true) (y3:us.length=ys.length * esz)
  {v:AV} {G':List GO} (ha:fK s.G elem esz eb x ys=some (true,v,G')) :
  bH E R w β s a o ((s.bG G').put o.dst (.v v)):=by
 obtain ⟨zc,pD,E4⟩:=dE f6;have Og:=hA;have hA:=hA zc pD;obtain ⟨d1,d2⟩:=Rel.cells (E4 R w) pK;have tc:zc.cells.size=esz:=by rw [← hz,d1.length]; simp
 unfold fK at ha;split at ha
 ·-- nothing is appended
  rename_i k sz es;have W5:us=[]:=List.eq_nil_of_length_eq_zero (by simpa using y3);have hG:G'=s.G∧Rel R w v cx:=by
   split at ha
   ·injection ha with ha; injection ha with _ ha; injection ha with p q;subst p; subst q;exact ⟨rfl,h0⟩
   ·injection ha with ha; injection ha with _ ha; injection ha with p q;subst p; subst q;exact ⟨rfl,h0⟩
  obtain ⟨rfl,hvr⟩:=hG;refine ao (s:=s) h (c:=cx) (gD ?_) hvr;cases h0 with
  |jD=>exact hA.zero rfl _ _ _ (Nat.le_refl 0)
  |jl=>exact hA.zero rfl _ _ _ (Nat.le_refl 0)
  |nj=>exact hA.zero rfl _ _ _ (Nat.le_refl 0)
  |kL=>exact hA.zero rfl _ _ _ (Nat.le_refl 0)
  |mD=>exact hA.zero rfl _ _ _ (Nat.le_refl 0)
  |list hr hlen gC _=>exact hA.zero rfl _ _ _ gC
 ·-- something is appended
  rename_i k sz es y ys hA;have oM:0 < (y :: ys).length:=by simp
  -- what is shown where a new block has been made
  have grown:∀ {n old:Nat} {xs:List Value} {es':List AV},(es'.length=n)→jk esz es'→aL R w (aw es') xs→(∀ v∈xs,v.oneCell'=true)→xs.length=n * esz →
    (n+(y :: ys).length) * eb≤140737488355328→n+(y :: ys).length≤maxLen→∀ (R':ai) (G2:List GO) (id:Nat),
    aX E R' (w.drew.alloc (.cells (xs.toArray++us.toArray++Builtin.zeroCells zc.cells (grownCap w (n+(y :: ys).length) old elem - (n+(y :: ys).length))) elem)) β (s.bG G2) a →
    Step R w β s.boxes R' (w.drew.alloc (.cells (xs.toArray++us.toArray++Builtin.zeroCells zc.cells (grownCap w (n+(y :: ys).length) old elem - (n+(y :: ys).length))) elem)) β s.boxes →
    (∀ j,j < (n+(y :: ys).length) * esz→R'.I w.heap.size j)→nth R'.obj id=some (.tok (n+(y :: ys).length) w.heap.size (grownCap w (n+(y :: ys).length) old elem) 0) →
    (Builtin.append_ #[t,u] o.type #[cx,cy]).run E.P w=.ok (.slice (some ⟨w.heap.size,0,none⟩) (n+(y :: ys).length) (grownCap w (n+(y :: ys).length) old elem)) (w.drew.alloc (.cells (xs.toArray++us.toArray++Builtin.zeroCells zc.cells (grownCap w (n+(y :: ys).length) old elem - (n+(y :: ys).length))) elem)) →
    bH E R w β s a o ((s.bG G2).put o.dst (.v (.list (.own id) esz (es'++(y :: ys))))):=by
   intro n old xs es' Be Se Xc wH Bk _ _ R' G2 id ca Bl hI hid bB;refine ⟨_,_,_,R',β,gD bB,.inl rfl,ca.put o.dst ?_,by rw [aT]; exact Bl⟩;have e:=Bl.ext;refine Rel.list (yh (vs:=xs++us) (mL Se y0) (by rw [cJ]; exact (Xc.mono e).append (y1.mono e)) (jH wH y2) (fun j v hj=>?_) (fun j hj=>hI j (by rw [List.length_append,Bk,y3,← Nat.add_mul] at hj; exact hj))) (by simp [Be]) (grownCap_ge w _ _ _) ⟨_,hid,Nat.le_refl _,fun _=>⟨rfl,.inl rfl,rfl⟩⟩;have oJ:(w.drew.alloc (.cells (xs.toArray++us.toArray++Builtin.zeroCells zc.cells (grownCap w (n+(y :: ys).length) old elem - (n+(y :: ys).length))) elem)).heap[w.heap.size]?=some (.cells (xs.toArray++us.toArray++Builtin.zeroCells zc.cells (grownCap w (n+(y :: ys).length) old elem - (n+(y :: ys).length))) elem (0,0)):=heap_alloc_new w.drew _;rw [cell_of_row _ _ j _ _ _ oJ];have bO:=(List.getElem?_eq_some_iff.1 hj).1;rw [← Array.getElem?_toList];simp only [Array.toList_append,List.append_assoc];rw [← List.append_assoc,List.getElem?_append_left bO];exact hj
  have K9:∀ {n old:Nat} {xs:List Value},xs.length=n * esz→n+(y :: ys).length≤maxLen→(xs.toArray++us.toArray++Builtin.zeroCells zc.cells (grownCap w (n+(y :: ys).length) old elem - (n+(y :: ys).length))).size=grownCap w (n+(y :: ys).length) old elem * esz:=by
   intro n old xs Bk _;have A9:=grownCap_ge w (n+(y :: ys).length) old elem;simp only [Array.size_append,List.size_toArray,size_zeroCells,tc,Bk,y3,← Nat.add_mul];congr 1;omega
  have fresh:∀ {n old:Nat} {xs:List Value} {es':List AV},(es'.length=n)→jk esz es'→aL R w (aw es') xs→(∀ v∈xs,v.oneCell'=true)→xs.length=n * esz →
    (n+(y :: ys).length) * eb≤140737488355328→n+(y :: ys).length≤maxLen →
    (Builtin.append_ #[t,u] o.type #[cx,cy]).run E.P w=.ok (.slice (some ⟨w.heap.size,0,none⟩) (n+(y :: ys).length) (grownCap w (n+(y :: ys).length) old elem)) (w.drew.alloc (.cells (xs.toArray++us.toArray++Builtin.zeroCells zc.cells (grownCap w (n+(y :: ys).length) old elem - (n+(y :: ys).length))) elem)) →
    bH E R w β s a o ((s.bG (s.G++[.tok (n+(y :: ys).length) esz elem])).put o.dst (.v (.list (.own s.G.length) esz (es'++(y :: ys))))):=by
   intro n old xs es' Be Se Xc wH Bk hb hm bB;obtain ⟨r1,r2⟩:=h.R6 (cur:=xs.toArray++us.toArray++Builtin.zeroCells zc.cells (grownCap w (n+(y :: ys).length) old elem - (n+(y :: ys).length))) (elem:=elem) (grownCap_ge w (n+(y :: ys).length) old elem) (grownCap_le_maxLen w _ old elem hm) (K9 Bk hm);exact grown Be Se Xc wH Bk hb hm _ _ _ r1 r2 (fun j hj=>.inr ⟨rfl,hj⟩) (by rw [← h.g.len]; exact cI _ _) bB
  have Sf:∀ {n:Nat},(n+(y :: ys).length) * eb≤140737488355328→n+(y :: ys).length≤140737488355328:=fun {n} hb=>Nat.le_trans (Nat.le_mul_of_pos_right _ E6) hb
  split at ha
  ·-- nil
   injection ha with ha; injection ha with hc ha; injection ha with p q;subst p; subst q;have hb:=of_decide_eq_true hc;cases h0 with
   |list _ _ _ IY=>exact IY.elim
   |jD=>
    simp only [List.length_nil] at hb;have hm:=Sf hb;refine fresh (n:=0) (old:=0) (xs:=[]) (es':=[]) rfl (fun e he=>by simp at he) .nil (by simp) (by simp) hb (by unfold maxLen; omega) ?_;have bB:=hA.nil oM (by omega) (by rw [f3]; rw [Nat.zero_add] at hb; omega);simpa using bB
  ·-- as long as its capacity
   split at ha
   ·rename_i fb;have fb:=Nat.eq_of_beq_eq_true fb;subst fb;injection ha with ha; injection ha with hc ha; injection ha with p q;subst p; subst q;have hb:=of_decide_eq_true hc;have hm:=Sf hb;obtain ⟨x0,xs,x1,x2,x3,x4⟩:=fM (esz:=sz) h0 (.inr rfl);rcases x4 with ⟨rfl,rfl,ad,rfl,hd⟩|⟨b,o',cap,rfl,Sd,xk,rM,_⟩
    ·rcases hd with rfl|hd
     ·cases h0
     ·cases hd
    ·have gC:cap=es.length:=xk;subst gC;refine fresh (n:=es.length) (old:=es.length) (xs:=xs) (es':=es) rfl x0 x1 x2 x3 hb (by unfold maxLen; omega) ?_;exact hA.grow oM ⟨b,o',none⟩ es.length es.length xs (by rw [x3,f2]) rM (by omega) (by omega) (growslice_fits (by omega) (by rw [f3]; exact hb))
   ·cases ha
  ·-- of a token
   rename_i id;split at ha
   ·rename_i f bu e' iB;split at ha
    ·rename_i cm;simp only [Bool.and_eq_true] at cm;obtain ⟨⟨q1,q2⟩,q3⟩:=cm;have q1:=Nat.eq_of_beq_eq_true q1;have q2:=Nat.eq_of_beq_eq_true q2;have q3:=Nat.eq_of_beq_eq_true q3;subst q1; subst q2; subst q3;injection ha with ha; injection ha with hc ha; injection ha with p q;subst p; subst q;simp only [Bool.and_eq_true] at hc;have xj:=of_decide_eq_true hc.1;have hb:=of_decide_eq_true hc.2;subst xj;have hm:=Sf hb;obtain ⟨x0,xs,x1,x2,x3,x4⟩:=fM (esz:=sz) h0 (.inr rfl);rcases x4 with ⟨rfl,rfl,ad,rfl,hd⟩|⟨b,o',cap,rfl,Sd,xk,rM,xE⟩
     ·obtain rfl:ad=none:=by
       rcases hd with hd|hd
       ·exact hd
       ·cases hd
      cases h0 with
      | @kL _ _ ro bn hon=>
      have ca:=h.g.obj id _ _ iB bn;cases ro with
      |none=>exact ca.elim
      |bK _=>exact ca.elim
      |tok f' g c k0=>
       obtain ⟨rfl,_⟩:=ca;simp [ni] at hon
      |bc _=>exact ca.elim
      |bz=>
       simp only [List.length_nil] at hb;have bB:=hA.nil oM (by omega) (by rw [f3]; rw [Nat.zero_add] at hb; omega);have fb:=K9 (n:=0) (old:=0) (xs:=[]) (by simp) (by unfold maxLen; omega);obtain ⟨r1,r2⟩:=h.K4 (cur:=[].toArray++us.toArray++Builtin.zeroCells zc.cells (grownCap w (0+(y :: ys).length) 0 e' - (0+(y :: ys).length))) (elem:=e') (n:=0+(y :: ys).length) (cap:=grownCap w (0+(y :: ys).length) 0 e') iB bn (fun b c=>by simp only [cp]; omega) (grownCap_ge w _ _ _) (grownCap_le_maxLen w _ _ _ (by unfold maxLen; omega)) fb;exact grown (n:=0) (es':=[]) rfl (fun e he=>by simp at he) .nil (by simp) (by simp) hb (by unfold maxLen; omega) _ _ _ r1 r2 (fun j hj=>.inr ⟨rfl,hj⟩) (ay bn) (by simpa using bB)
     ·obtain ⟨ro,bn,vK⟩:=xk;have ca:=h.g.obj id _ _ iB bn;cases ro with
      |none=>exact ca.elim
      |bz=>exact vK.elim
      |bK _=>exact ca.elim
      |bc _=>exact ca.elim
      |tok f' g c k0=>
       obtain ⟨rfl,cur,jG,k1,k3,k4,k5⟩:=ca;obtain ⟨rfl,fa,rfl⟩:=vK.2 rfl;by_cases fc:es.length+(y :: ys).length≤cap
       ·have fa:=fa.resolve_right (by rw [List.length_cons] at fc; omega);subst fa;have hle:(es.length+(y :: ys).length) * sz≤cap * sz:=Nat.mul_le_mul_right _ fc;have bB:=hA.room oM b o' es.length cap cur jG fc (by rw [f2,Nat.add_assoc,y3,← Nat.add_mul,k4]; omega);rw [f2] at bB;obtain ⟨r0,r1,r2⟩:=h.Oa (news:=us) (n:=es.length+(y :: ys).length) iB bn (by omega) fc jG k4 k3 (by rw [y3,← Nat.add_mul]);refine ⟨_,_,_,_,β,gD bB,.inl rfl,r1.put o.dst ?_,by rw [aT]; exact r2⟩;have oJ:=setRow_heap w b cur (cur.toList.take (o'+es.length * sz)++us++cur.toList.drop (o'+es.length * sz+us.length)).toArray e' (0,0) jG;have Nx:xs.length=es.length * sz:=x3;have jX:cur.toList.length=o'+cap * sz:=by rw [show cur.toList.length=cur.size from Array.length_toList,k4]
        have Di:es.length * sz≤cap * sz:=Nat.mul_le_mul_right _ (by omega);have ke:∀ j v,(xs++us)[j]?=some v→(w.setRow b (cur.toList.take (o'+es.length * sz)++us++cur.toList.drop (o'+es.length * sz+us.length)).toArray).cell? ⟨b,o'+j,none⟩=some v:=fun j v hj=>by
         rw [cell_of_row _ _ (o'+j) _ _ _ oJ];simp only [List.getElem?_toArray];by_cases hjx:j < xs.length
         ·rw [List.getElem?_append_left hjx] at hj;have wG:=rM j v hj;rw [cr,cell_of_row w b (o'+j) cur e' (0,0) jG] at wG;rw [List.append_assoc,List.getElem?_append_left (by rw [List.length_take]; omega),List.getElem?_take,if_pos (by omega),Array.getElem?_toList];exact wG
         ·have bO:=(List.getElem?_eq_some_iff.1 hj).1;rw [List.length_append] at bO;rw [List.getElem?_append_right (by omega)] at hj;have ht:(cur.toList.take (o'+es.length * sz)).length=o'+es.length * sz:=by rw [List.length_take]; omega
          rw [List.append_assoc,List.getElem?_append_right (by rw [ht]; omega),ht,List.getElem?_append_left (by omega),show o'+j - (o'+es.length * sz)=j - xs.length by omega];exact hj
        refine Rel.list (lm (mL x0 y0) (fg.make (vs:=xs++us) (by rw [cJ]; exact (x1.mono r0).append (y1.mono r0)) (jH x2 y2) ke (fun j hj=>.inr ⟨rfl,?_⟩))) (by simp) fc ⟨_,ay bn,Nat.le_refl _,fun _=>⟨rfl,.inl rfl,rfl⟩⟩;rw [cJ,List.length_append,x1.length,y1.length,Nx,y3,← Nat.add_mul] at hj;omega
       ·have bB:=hA.grow oM ⟨b,o',none⟩ es.length cap xs (by rw [x3,f2]) rM (by omega) (by omega) (growslice_fits (by omega) (by rw [f3]; exact hb));obtain ⟨r1,r2⟩:=h.K4 (cur:=xs.toArray++us.toArray++Builtin.zeroCells zc.cells (grownCap w (es.length+(y :: ys).length) cap e' - (es.length+(y :: ys).length))) (elem:=e') (n:=es.length+(y :: ys).length) (cap:=grownCap w (es.length+(y :: ys).length) cap e') iB bn (fun b c=>⟨by omega,fun e=>by omega⟩) (grownCap_ge w _ _ _) (grownCap_le_maxLen w _ _ _ (by unfold maxLen; omega)) (K9 x3 (by unfold maxLen; omega));exact grown rfl x0 x1 x2 x3 hb (by unfold maxLen; omega) _ _ _ r1 r2 (fun j hj=>.inr ⟨rfl,hj⟩) (ay bn) bB
    ·cases ha
   ·cases ha
  ·-- of a member of a family
   rename_i id j;split at ha
   ·rename_i fs bu e' iB;split at ha
    ·rename_i cm;simp only [Bool.and_eq_true] at cm;obtain ⟨⟨q1,q2⟩,q3⟩:=cm;have q1:=Nat.eq_of_beq_eq_true q1;have q2:=Nat.eq_of_beq_eq_true q2;have q3:=Nat.eq_of_beq_eq_true q3;subst q1; subst q2; subst q3;injection ha with ha; injection ha with hc ha; injection ha with p q;subst p; subst q;simp only [Bool.and_eq_true,decide_eq_true_eq] at hc;exact wP h gD E6 hz pK f2 f3 f6 h0 (fun zc' Sg=>Og zc' Sg) y0 y1 y2 y3 iB hc.1 hc.2
    ·cases ha
   ·cases ha
  ·cases ha
 ·-- a slice that grows, and nothing
  injection ha with ha; injection ha with _ ha; injection ha with p q;subst p; subst q;refine ao (s:=s) h (c:=cx) (gD ?_) h0;cases h0 with
  |jE=>exact hA.zero rfl _ _ _ (Nat.le_refl 0)
  |cZ _ _ gC=>exact hA.zero rfl _ _ _ gC
 ·-- a slice that grows
  rename_i id f' off sz len y ys hA;split at ha
  ·rename_i es bu e' iB;split at ha
   ·rename_i cm;simp only [Bool.and_eq_true] at cm;obtain ⟨⟨q1,q2⟩,q3⟩:=cm;have q1:=Nat.eq_of_beq_eq_true q1;have q2:=Nat.eq_of_beq_eq_true q2;have q3:=Nat.eq_of_beq_eq_true q3;subst q1; subst q2; subst q3;injection ha with ha; injection ha with hc ha; injection ha with p q;subst p; subst q;simp only [Bool.and_eq_true,decide_eq_true_eq] at hc;exact pz h gD E6 hz pK f2 f3 f6 h0 (fun zc' Sg=>Og zc' Sg) y0.g y1 y2 y3 iB hc.1.1.1 hc.1.1.2 hc.1.2 hc.2
   ·cases ha
  ·cases ha
 ·cases ha
theorem DF (h:aX E R w β s a) {args:Array Operand} {t:TypeId} (ho:o.op=.call { callee:=.builtin .append,args:=args,argTypes:=#[t,t] }) {x:AV} {k2:LK} {Hs:Nat} {ys:List AV}
  (hl:nf E s.ae args.toList=some [x,.list k2 Hs ys]) {i:TI} (hi:E.ti t=some i) {elem esz eb:Nat} {ag:Bool} {z:AV} (hk:i.k=.sl elem esz ag eb (some z)) (DE:ys=[]∨Hs=esz) (afq:1≤esz) (E6:1≤eb) (hz:z.cells.length=esz) (pK:z.aS=true)
  {v:AV} {G':List GO} (ha:fK s.G elem esz eb x ys=some (true,v,G')) :
  bH E R w β s a o ((s.bG G').put o.dst (.v v)):=by
 have hr:=gu h hl;generalize hv:args.toList.map a.eval=vs at hr;have hx:=eh (E:=E) (w:=w) ho vs hv;cases hr with
 | @cons _ cx _ _ h0 h1=>
 cases h1 with
 | @cons _ cy _ _ h1 h2=>
 cases h2;obtain ⟨gY,u,e1,e2,e3,e4,e5,e6⟩:=bT E hi;have Nv:=hk;rw [hk] at e5;obtain ⟨ie,ue,rfl,f1,f2,f3,f4,f5,f6⟩:=dF e5;have rN:(⟨[cx,cy]⟩:Array Value)=#[cx,cy]:=rfl;obtain ⟨y0,us,y1,y2,y3,y4⟩:=fM (esz:=esz) h1 DE;refine jJ h (cx:=cx) (cy:=cy) (t:=t) (u:=t) (fun hh=>?_) Nv E6 hz pK f1 f2 f3 f6 h0 (fun zc pD=>?_) y0 y1 y2 y3 ha
 ·rw [hx];simp only [builtin,rN,Sem.run_bind,hh,Result.andThen_ok,Sem.run_pure]
 ·rcases y4 with ⟨rfl,rfl,ad,rfl,_⟩|⟨V3,oy,yj,rfl,Xe,_,pZ,yE⟩
  ·refine ⟨fun _ base len cap Dh=>?_,fun hh=>absurd hh (by simp),fun hh=>absurd hh (by simp),fun hh=>absurd hh (by simp)⟩;cases ad <;> simp [Builtin.append_,run_underlying e2,run_sizeOf w f1,Builtin.lenOf,Builtin.firstCells,Dh,storeCells,loadCells,loadCellsFrom] <;>
    cases base <;> simp [storeCells]
  ·refine ⟨fun hn base len cap Dh=>?_,fun hh FR FT=>run_append_nil (P:=E.P) w t o.type elem ie zc e2 f1 pD _ _ yj us (by rw [y3,f2]) pZ hh FR FT,fun _ b sLen fS yi wQ DG hg FR FT=>run_append_grow (P:=E.P) w t o.type elem ie zc e2 f1 pD b sLen fS yi wQ DG _ _ yj us (by rw [y3,f2]) pZ hg FR FT,fun _ g k sLen fS cur hg fc pE=>jI (P:=E.P) w t o.type elem ie e2 f1 g k sLen fS cur hg _ _ yj us (by rw [y3,f2]) pZ y2 fc pE⟩;rw [hn];simp [Builtin.append_,run_underlying e2,run_sizeOf w f1,Builtin.lenOf,Builtin.firstCells,Dh,storeCells,loadCells,loadCellsFrom];cases base <;> simp [storeCells]
theorem DH {sz:Nat} {es:List AV} (h:dw sz es) (hc:aF es=true):jk sz es:=by
 induction es with
 |nil=>intro e he; cases he
 |cons x es ih=>
  have s7:(x.closed&&aF es)=true:=hc;rw [Bool.and_eq_true] at s7;intro e he;rcases List.mem_cons.1 he with rfl|he
  ·exact ⟨(h e List.mem_cons_self).1,(h e List.mem_cons_self).2,s7.1⟩
  ·exact ih (fun e he=>h e (List.mem_cons_of_mem _ he)) s7.2 e he
theorem I6 (h:aX E R w β s a) {id f sz len:Nat} {es:List AV} {el:TypeId} {c:Value} (hid:nth s.G id=some (.bo es sz el)) (hf:f=es.length) (hl:len=es.length) (jX:aF es=true) (hc:Rel R w (.cZ id f 0 sz len) c) :
  jk sz es∧∃ vs,aL R w (aw es) vs∧(∀ v∈vs,v.oneCell'=true)∧vs.length=es.length * sz ∧
   ((es=[]∧vs=[]∧∃ ad,c=.slice ad 0 0)∨∃ b o' cap,c=.slice (some ⟨b,o',none⟩) es.length cap∧es.length≤cap∧(∀ j v,vs[j]?=some v→w.cell? ((⟨b,o',none⟩:Addr).add j)=some v)):=by
 cases hc with
 |jE h1 h2=>
  have he:es=[]:=List.eq_nil_of_length_eq_zero hl.symm;subst he;exact ⟨(fun e he=>by cases he),[],.nil,by simp,by simp,.inl ⟨rfl,rfl,_,rfl⟩⟩
 | @cZ _ _ _ _ _ cap b1 o1 ro h1 h2 h3=>
  have hn:ro≠.bz:=fun e=>by subst e; exact h2.elim
  obtain ⟨b,c',cur,vs,rfl,g0,g2,g3,g4,g5,g6,g7,g8,g9⟩:=oK h.g hid h1 hn;have g1:jk sz es:=DH g0 jX;obtain ⟨rfl,k2,k3⟩:=h2.2 hf;refine ⟨g1,vs,g7,g8,by rw [← g7.length,cS g1],.inr ⟨_,_,_,by rw [hl],by omega,fun j v hj=>?_⟩⟩;rw [cr];have hjl:j < vs.length:=(List.getElem?_eq_some_iff.1 hj).1;have ho:o1=0:=by
   rcases k3 with k3|k3
   ·rw [k3,Nat.zero_mul]
   ·have:es.length=0:=by omega
    rw [← g7.length,cS g1,this,Nat.zero_mul] at hjl;omega
  subst ho;rw [Nat.zero_add,cell_of_row w b1 j cur el (0,0) g2];rw [← g9,List.getElem?_take] at hj;split at hj
  ·rw [← Array.getElem?_toList]; exact hj
  ·cases hj
theorem wR (h:aX E R w β s a) {args:Array Operand} {t:TypeId} (ho:o.op=.call { callee:=.builtin .append,args:=args,argTypes:=#[t,t] }) {x:AV} {id f sz len:Nat} {ys:List AV} {el:TypeId}
  (hl:nf E s.ae args.toList=some [x,.cZ id f 0 sz len]) (hid:nth s.G id=some (.bo ys sz el)) (hf:f=ys.length) (hlen:len=ys.length) (jX:aF ys=true)
  {i:TI} (hi:E.ti t=some i) {elem esz eb:Nat} {ag:Bool} {z:AV} (hk:i.k=.sl elem esz ag eb (some z)) (DE:sz=esz) (E6:1≤eb) (hz:z.cells.length=esz) (pK:z.aS=true)
  {v:AV} {G':List GO} (ha:fK s.G elem esz eb x ys=some (true,v,G')) :
  bH E R w β s a o ((s.bG G').put o.dst (.v v)):=by
 have hr:=gu h hl;generalize hv:args.toList.map a.eval=vs at hr;have hx:=eh (E:=E) (w:=w) ho vs hv;cases hr with
 | @cons _ cx _ _ h0 h1=>
 cases h1 with
 | @cons _ cy _ _ h1 h2=>
 cases h2;obtain ⟨gY,u,e1,e2,e3,e4,e5,e6⟩:=bT E hi;have Nv:=hk;rw [hk] at e5;obtain ⟨ie,ue,rfl,f1,f2,f3,f4,f5,f6⟩:=dF e5;have rN:(⟨[cx,cy]⟩:Array Value)=#[cx,cy]:=rfl;subst DE;obtain ⟨y0,us,y1,y2,y3,y4⟩:=I6 h hid hf hlen jX h1;refine jJ h (cx:=cx) (cy:=cy) (t:=t) (u:=t) (fun hh=>?_) Nv E6 hz pK f1 f2 f3 f6 h0 (fun zc pD=>?_) y0 y1 y2 y3 ha
 ·rw [hx];simp only [builtin,rN,Sem.run_bind,hh,Result.andThen_ok,Sem.run_pure]
 ·rcases y4 with ⟨rfl,rfl,ad,rfl⟩|⟨V3,oy,yj,rfl,Xe,pZ⟩
  ·refine ⟨fun _ base len cap Dh=>?_,fun hh=>absurd hh (by simp),fun hh=>absurd hh (by simp),fun hh=>absurd hh (by simp)⟩;cases ad <;> simp [Builtin.append_,run_underlying e2,run_sizeOf w f1,Builtin.lenOf,Builtin.firstCells,Dh,storeCells,loadCells,loadCellsFrom] <;>
    cases base <;> simp [storeCells]
  ·refine ⟨fun hn base len cap Dh=>?_,fun hh FR FT=>run_append_nil (P:=E.P) w t o.type elem ie zc e2 f1 pD _ _ yj us (by rw [y3,f2]) pZ hh FR FT,fun _ b sLen fS yi wQ DG hg FR FT=>run_append_grow (P:=E.P) w t o.type elem ie zc e2 f1 pD b sLen fS yi wQ DG _ _ yj us (by rw [y3,f2]) pZ hg FR FT,fun _ g k sLen fS cur hg fc pE=>jI (P:=E.P) w t o.type elem ie e2 f1 g k sLen fS cur hg _ _ yj us (by rw [y3,f2]) pZ y2 fc pE⟩;rw [hn];simp [Builtin.append_,run_underlying e2,run_sizeOf w f1,Builtin.lenOf,Builtin.firstCells,Dh,storeCells,loadCells,loadCellsFrom];cases base <;> simp [storeCells]
theorem yk:∀ (bs:List UInt8),aL R w (aw (bs.map sU)) (Lib.strCells ⟨⟨bs⟩⟩)
 |[]=>.nil
 |b :: bs=>.cons (Rel.int .u8 b.toNat) (yk bs)
theorem wS (h:aX E R w β s a) {args:Array Operand} {t u:TypeId} (ho:o.op=.call { callee:=.builtin .append,args:=args,argTypes:=#[t,u] }) {x:AV} {bs:List UInt8}
  (hl:nf E s.ae args.toList=some [x,.str bs]) {i j:TI} (hi:E.ti t=some i) (hj:E.ti u=some j) {elem eb:Nat} {ag:Bool} {z:AV} (hk:i.k=.sl elem 1 ag eb (some z)) (V7:j.k=.str) (E6:1≤eb) (hz:z.cells.length=1) (pK:z.aS=true)
  {v:AV} {G':List GO} (ha:fK s.G elem 1 eb x (bs.map sU)=some (true,v,G')) :
  bH E R w β s a o ((s.bG G').put o.dst (.v v)):=by
 have hr:=gu h hl;generalize hv:args.toList.map a.eval=vs at hr;have hx:=eh (E:=E) (w:=w) ho vs hv;cases hr with
 | @cons _ cx _ _ h0 h1=>
 cases h1 with
 | @cons _ cy _ _ h1 h2=>
 cases h2;obtain ⟨gY,ud,e1,e2,e3,e4,e5,e6⟩:=bT E hi;obtain ⟨Xf,ud',g1,g2,g3,g4,g5,g6⟩:=bT E hj;rw [V7] at g5;have:=lE g5;subst this;have Nv:=hk;rw [hk] at e5;obtain ⟨ie,ue,rfl,f1,f2,f3,f4,f5,f6⟩:=dF e5;cases h1;have fb:(⟨⟨bs⟩⟩:ByteArray).size=bs.length:=rfl;have hlen:(bs.map sU).length=bs.length:=List.length_map _;have rN:(⟨[cx,.string ⟨⟨bs⟩⟩]⟩:Array Value)=#[cx,.string ⟨⟨bs⟩⟩]:=rfl;have jX:(Lib.strCells ⟨⟨bs⟩⟩).length=bs.length:=Lib.strCells_length _;refine jJ h (cx:=cx) (cy:=.string ⟨⟨bs⟩⟩) (us:=Lib.strCells ⟨⟨bs⟩⟩) (t:=t) (u:=u) (fun hh=>?_) Nv E6 hz pK f1 f2 f3 f6 h0 (fun zc pD=>?_) ?_ (yk bs) (Lib.strCells_oneCell _) (by rw [jX,hlen,Nat.mul_one]) ha
 ·rw [hx];simp only [builtin,rN,Sem.run_bind,hh,Result.andThen_ok,Sem.run_pure]
 ·rw [hlen];refine ⟨fun hn base len cap Dh=>?_,fun hh FR FT=>?_,fun _ b sLen fS yi wQ DG hg FR FT=>Lib.run_append_grow_string (P:=E.P) w t u o.type elem ie zc e2 g2 f1 pD b sLen fS yi wQ DG ⟨⟨bs⟩⟩ hg FR FT,fun _ g k sLen fS cur hg fc pE=>?_⟩
  ·have hb:bs=[]:=List.eq_nil_of_length_eq_zero hn;subst hb;have hz0:(⟨⟨[]⟩⟩:ByteArray).size=0:=rfl;simp [hz0,Builtin.append_,run_underlying e2,run_underlying g2,run_sizeOf w f1,Builtin.lenOf,Builtin.firstCells,Dh,storeCells];cases base <;> simp [storeCells]
  ·rw [run_append_nil_string (P:=E.P) w t u o.type elem ie zc e2 g2 f1 pD ⟨⟨bs⟩⟩ hh FR FT];simp [Lib.strCells,fb]
  ·have:=nO (P:=E.P) w t u o.type elem ie e2 g2 f1 f2 g k sLen fS cur hg ⟨⟨bs⟩⟩ fc (by rw [f2,Nat.mul_one,jX] at pE; exact pE);rw [this,f2,Nat.mul_one,jX];rfl
 ·intro e he;obtain ⟨b,_,rfl⟩:=List.mem_map.1 he;exact ⟨rfl,rfl,rfl⟩
def ai.yl (R:ai) (id:Nat) (ro:RO):ai:=⟨R.I,aq R.obj id .none++[ro]⟩
theorem nQ {R:ai} {id i:Nat} {r0 ro r:RO} (hid:nth R.obj id=some r0) (h:nth (R.yl id ro).obj i=some r):(i=id∧r=.none)∨(i≠id∧nth R.obj i=some r)∨(i=R.obj.length∧r=ro):=by
 rcases aj h with h|⟨h1,h2⟩
 ·rcases aB hid h with h|h
  ·exact .inl h
  ·exact .inr (.inl h)
 ·refine .inr (.inr ⟨?_,h2⟩);rw [h1,dQ,List.length_set]
theorem I7 {id f b c k:Nat} (ro:RO) (hid:nth R.obj id=some (.tok f b c k)):Ext R w (R.yl id ro) w:=
 ⟨fun _ _ h=>h,fun _ _ _=>rfl,fun i r hr=>by
  by_cases e:id=i
  ·subst e;rw [hid] at hr;cases hr;exact ⟨.none,bA (ay hid),trivial⟩
  ·exact ⟨r,bA (by rw [a8 e]; exact hr),cp.refl r⟩,fh.refl w⟩
theorem La (h:aX E R w β s a) {f:FuncId} {s':St} (hs:Fs E f s o=some (true,s')):bH E R w β s a o s':=by
 unfold Fs at hs;split at hs
 ·rename_i t x lo d ho hd;split at hs
  ·split at hs
   ·rename_i i id sz es k n qL hx wQ;split at hs
    ·rename_i elem esz ag oI z f0 bu ety hk iB;split at hs
     ·rename_i cm;simp only [Bool.and_eq_true] at cm;have q1:=Nat.eq_of_beq_eq_true cm.1;have q2:=(Nat.eq_of_beq_eq_true cm.2).symm;subst q1; subst q2;injection hs with hs; injection hs with hc hs;subst hs;simp only [Bool.and_eq_true,decide_eq_true_eq] at hc;obtain ⟨E5,cz,Be,IX⟩:=hc;subst E5;obtain ⟨p,rfl⟩:∃ p:Nat,n=(p:Int):=⟨n.toNat,by omega⟩;rw [Int.toNat_natCast];have hp:p≤es.length:=by omega
      obtain ⟨gY,u,e1,e2,e3,e4,e5,e6⟩:=bT E qL;rw [hk] at e5;obtain ⟨ie,ue,rfl,f1,f2,f3,f4,f5,f6⟩:=dF e5;have rx:=aQ h x;rw [hx] at rx;have dH:Rel R w (.list (.own id) sz es) (a.eval x):=rx;generalize fD:a.eval x=xv at dH;cases dH with
      |kL _ _=>simp at cz
      | @list _ _ _ b o' len cap hr hlen gC IY=>
       subst hlen;obtain ⟨ro,bn,vK⟩:=IY;have ca:=h.g.obj id _ _ iB bn;cases ro with
       |none=>exact ca.elim
       |bz=>exact vK.elim
       |bK _=>exact ca.elim
       |bc _=>exact ca.elim
       |tok f' g c k0=>
        obtain ⟨rfl,cur,jG,k1,k3,k4,k5⟩:=ca;obtain ⟨rfl,fa,rfl⟩:=vK.2 rfl;have fa:=fa.resolve_right (by omega);subst fa;have hl:mC E s.ae (some lo)=some (some (.v (.int k (p:Int)))):=by simp [mC,wQ]
        have hb:Ca es.length (some (.v (.int k (p:Int)))) none=some (true,p,es.length):=by
         have d:decide ((0:Int)≤(p:Int)∧(p:Int)≤(es.length:Int))=true:=decide_eq_true (by omega);simp only [Ca,xL,d,Int.toNat_natCast,Bool.and_self]
        obtain ⟨r1,_,_⟩:=dX (E:=E) true gC (td h hl) (td h (show mC E s.ae none=some none from rfl)) hb;have bB:(execOp a.eval o).run E.P w=.ok (.value (.slice (if cap=p then some ⟨b,o',none⟩ else some ⟨b,o'+p * sz,none⟩) (es.length - p) (cap - p))) w:=by
         simp only [execOp,ho,Instr.sliceAt,Sem.run_bind,run_underlying e2,Result.andThen_ok,Instr.slice,fD,r1,run_sizeOf w f1,f2,Sem.run_pure,Option.map_some,Option.map_none,cr] at *
        have e:=I7 (R:=R) (w:=w) (.tok (es.length - p) b (cap - p) (o'+p * sz)) bn;have hmul:(cap - p) * sz+p * sz=cap * sz:=by rw [← Nat.add_mul]; congr 1; omega
        have adk:(es.length - p) * sz+p * sz=es.length * sz:=by rw [← Nat.add_mul]; congr 1; omega
        have live:∀ b',Live (R.yl id (.tok (es.length - p) b (cap - p) (o'+p * sz))) b'→Live R b':=fun b' hl=>by
         obtain ⟨i,r,h1,h2⟩:=hl;rcases nQ bn h1 with ⟨_,rfl⟩|⟨_,h1⟩|⟨_,rfl⟩
         ·exact h2.elim
         ·exact ⟨i,r,h1,h2⟩
         ·exact ⟨id,_,bn,h2⟩
        have hG:aX E (R.yl id (.tok (es.length - p) b (cap - p) (o'+p * sz))) w β (s.bG (aq s.G id .dead++[.tok (es.length - p) sz ety])) a:=by
         refine ⟨⟨by simp [St.bG,ai.yl,dQ,h.g.len],fun i gg r h1 h2=>?_,fun i j ri rj b' h1 h2 b1 b2=>?_,h.g.wf,fun g cs hg=>(h.g.dV g cs hg).mono e,h.g.lo⟩,h.b.aZ e (fun _ _ _=>rfl) (fun _ _ _ _ hi=>hi) (fun _ _ _ hl=>live _ hl),h.t.mono e,h.n,h.d.mono e⟩
         ·simp only [St.bG] at h1;rcases nQ bn h2 with ⟨rfl,rfl⟩|⟨FU,h2⟩|⟨h3,rfl⟩
          ·rw [bA (ay iB)] at h1;cases h1;trivial
          ·rcases aj h1 with h1|⟨h3,_⟩
           ·rw [a8 (Ne.symm FU)] at h1;exact (h.g.obj i gg r h1 h2).mono e (fun _ _=>rfl) (fun _ _ _ hi=>hi)
           ·have:=bi h2;rw [h3,dQ,List.length_set,h.g.len] at this;omega
          ·rcases aj h1 with h1|⟨_,rfl⟩
           ·have:=bi h1;rw [h3,dQ,List.length_set,h.g.len] at this;omega
           ·exact ⟨rfl,cur,jG,by omega,by omega,by omega,fun o2 Xg hi=>k5 o2 (by omega) hi⟩
         ·rcases nQ bn h1 with ⟨_,rfl⟩|⟨m1,h1⟩|⟨m1,rfl⟩
          ·exact b1.elim
          ·rcases nQ bn h2 with ⟨_,rfl⟩|⟨m2,h2⟩|⟨m2,rfl⟩
           ·exact b2.elim
           ·exact h.g.inj i j ri rj b' h1 h2 b1 b2
           ·exact absurd (h.g.inj i id ri _ b' h1 bn b1 b2) m1
          ·rcases nQ bn h2 with ⟨_,rfl⟩|⟨m2,h2⟩|⟨m2,rfl⟩
           ·exact b2.elim
           ·exact absurd (h.g.inj j id rj _ b' h2 bn b2 b1) m2
           ·omega
        have e9:Step R w β s.boxes (R.yl id (.tok (es.length - p) b (cap - p) (o'+p * sz))) w β s.boxes:=by
         refine ⟨e,rfl,rfl,rfl,Nat.le_refl _,fun _ _ _=>rfl,fun b' _ ho=>?_,fun _ _ h _ _=>h⟩;rcases ho with ho|ho
         ·exact .inl (live b' ho)
         ·exact .inr ho
        have oJ:nth (R.yl id (.tok (es.length - p) b (cap - p) (o'+p * sz))).obj s.G.length=some (.tok (es.length - p) b (cap - p) (o'+p * sz)):=by
         have:=cI (aq R.obj id .none) (RO.tok (es.length - p) b (cap - p) (o'+p * sz));rw [dQ,List.length_set,h.g.len,← dQ] at this;exact this
        refine ⟨_,_,w,_,β,bB,.inl rfl,?_,by rw [aT]; exact e9⟩;rw [hd];refine hG.put (some d) (x:=.v (.list (.own s.G.length) sz (es.drop p))) ?_;by_cases N8:cap=p
        ·rw [if_pos N8];have he:es.drop p=[]:=List.eq_nil_of_length_eq_zero (by rw [List.length_drop]; omega);exact Rel.list (by rw [he]; exact .nil) (by rw [List.length_drop]) (by omega) ⟨_,oJ,Nat.le_refl _,fun _=>⟨rfl,.inr (by omega),rfl⟩⟩
        ·rw [if_neg N8];exact Rel.list ((uU p hr).mono e) (by rw [List.length_drop]) (by omega) ⟨_,oJ,Nat.le_refl _,fun _=>⟨rfl,.inl rfl,rfl⟩⟩
     ·cases hs
    ·cases hs
   ·cases hs
  ·cases hs
 ·cases hs
end ops
end Go.Am
