/- The abstract machine: what it does is what the model does: append and copy. -/
import Derived.Test.YtophnjjjmikmeaaGreatAmKD
import Derived.Lib.AppendStr
set_option linter.all false
namespace Go.Am
open Go
section fams
variable {E:Env} {R R':af} {w w':World} {β β':Nat→Nat} {s s':St} {a a':Act} {o:Oper}
theorem rE {α:Type} {l r:List α} {i:Nat} {x:α} (h:nth r i=some x):nth (l++r) (l.length+i)=some x:=by
 rw [aE] at *
 rw [List.getElem?_append_right (Nat.le_add_right _ _),Nat.add_sub_cancel_left]
 exact h
theorem iE {α:Type} {l r:List α} {i:Nat} {x:α} (h:nth l i=some x):nth (l++r) i=some x:=by
 have:=aQ h
 rw [aE] at *
 rw [List.getElem?_append_left this]
 exact h
theorem aK {α:Type} {l r:List α} {i:Nat} {x:α} (h:nth (l++r) i=some x):nth l i=some x∨∃ j,i=l.length+j∧nth r j=some x:=by
 rw [aE] at h
 rcases Nat.lt_or_ge i l.length with bM | qS
 ·rw [List.getElem?_append_left bM] at h
  exact .inl (by rw [aE]; exact h)
 ·rw [List.getElem?_append_right qS] at h
  exact .inr ⟨i - l.length,by omega,by rw [aE]; exact h⟩
theorem aL.zf (h:aL E R w β s a) {id sz:Nat} {e:TypeId} {fs:List Nat} (hid:nth s.G id=some (.aH fs sz e)) {nfs:List Nat} {nts:List TR} (hl:nts.length=nfs.length)
  (cM:∀ j f t,nth nfs j=some f→nth nts j=some t→xA R w sz e f t) (my:∀ j f b c,nth nts j≠some (.tok f b c)) {ro:RO} (aR:nth R.obj id=some ro) :
  ∃ ts,ro=.aH ts∧ts.length=fs.length∧aL E (R.reset id (.aH (ts++nts))) w β (s.aZ (au s.G id (.aH (fs++nfs) sz e))) a∧Step R w β s.boxes (R.reset id (.aH (ts++nts))) w β s.boxes:=by
 have bh:=h.g.obj id _ _ hid aR
 cases ro with
 | none=>exact bh.elim
 | aN=>exact bh.elim
 | bi _=>exact bh.elim
 | tok _ _ _ _=>exact bh.elim
 | aH ts=>
 obtain ⟨q1,q2,q3⟩:=bh
 have iD:∀ b,RO.has (.aH (ts++nts)) b→RO.has (.aH ts) b:=fun b ⟨j,f,c,hj⟩=>by
  rcases aK hj with hj | ⟨i,_,hi⟩
  ·exact ⟨j,f,c,hj⟩
  ·exact absurd hi (my i f b c)
 have ext:Ext R w (R.reset id (.aH (ts++nts))) w:=⟨fun _ _ h=>h,fun _ _ _=>rfl,fun i r hr=>by
  by_cases e:id=i
  ·subst e
   rw [aR] at hr
   cases hr
   exact ⟨_,aj aR,fun j t hj=>⟨t,iE hj,eZ.refl t⟩⟩
  ·exact ⟨r,by rw [af.reset,aB e]; exact hr,bI.refl r⟩,dI.refl w⟩
 have live:∀ b,Live (R.reset id (.aH (ts++nts))) b→Live R b:=fun b ⟨i,r,h1,h2⟩=>by
  rcases ap aR h1 with ⟨_,rfl⟩ | ⟨_,h1⟩
  ·exact ⟨id,_,aR,iD b h2⟩
  ·exact ⟨i,r,h1,h2⟩
 refine ⟨ts,rfl,q1,⟨⟨by simp [St.aZ,af.reset,h.g.len],fun i g r h1 h2=>?_,fun i j ri rj b h1 h2 b1 b2=>?_,h.g.wf,fun g cs hg=>(h.g.cG g cs hg).mono ext,h.g.lo⟩,h.b.bl ext (fun _ _ _=>rfl) (fun _ _ _ _ h=>h) (fun _ _ _ hl=>live _ hl),h.t.mono ext,h.n,h.d.mono ext⟩,?_⟩
 ·rcases ap aR h2 with ⟨rfl,rfl⟩ | ⟨bW,h2⟩
  ·simp only [St.aZ] at h1
   rw [aj hid] at h1
   cases h1
   refine ⟨by simp [q1,hl],fun i j f b c f' c' hi hj=>?_,fun j f t hf ht=>?_⟩
   ·rcases aK hi with hi | ⟨_,_,hi⟩
    ·rcases aK hj with hj | ⟨_,_,hj⟩
     ·exact q2 i j _ _ _ _ _ hi hj
     ·exact absurd hj (my _ _ _ _)
    ·exact absurd hi (my _ _ _ _)
   ·rcases aK hf with qT | ⟨k,hk,qT⟩
    ·rcases aK ht with ht | ⟨k',fA,ht⟩
     ·exact q3 j f t qT ht
     ·have:=aQ qT
      omega
    ·rcases aK ht with ht | ⟨k',fA,ht⟩
     ·have:=aQ ht
      omega
     ·have Cd:k=k':=by omega
      subst Cd
      exact cM k f t qT ht
  ·simp only [St.aZ] at h1
   rw [aB (Ne.symm bW)] at h1
   exact (h.g.obj i g r h1 h2).mono ext (fun _ _=>rfl) (fun _ _ _ h=>h)
 ·rcases ap aR h1 with ⟨g3,e1⟩ | ⟨g3,g1⟩
  ·rcases ap aR h2 with ⟨g4,e2⟩ | ⟨g4,g2⟩
   ·omega
   ·rw [e1] at b1
    exact g3.trans (h.g.inj id j _ _ b aR g2 (iD b b1) b2)
  ·rcases ap aR h2 with ⟨g4,e2⟩ | ⟨g4,g2⟩
   ·rw [e2] at b2
    exact (h.g.inj i id _ _ b g1 aR b1 (iD b b2)).trans g4.symm
   ·exact h.g.inj i j ri rj b g1 g2 b1 b2
 ·refine ⟨ext,rfl,rfl,rfl,Nat.le_refl _,fun _ _ _=>rfl,fun b _ ho=>?_,fun _ _ h _ _=>h⟩
  rcases ho with ho | ho
  ·exact .inl (live b ho)
  ·exact .inr ho
theorem bn.step {s1:St} {s2:St} (e:s1.boxes=s.boxes) (st:Step R w β s.boxes R' w β s.boxes) (h:bn E R' w β s1 a o s2):bn E R w β s a o s2:=by
 obtain ⟨nx,x,w',R2,β',h1,h2,h3,h4⟩:=h
 rw [e] at h4
 exact ⟨nx,x,w',R2,β',h1,h2,h3,st.trans h4⟩
theorem Q0 {c:Bool} {α:Type} {a b:α} (h:(bif c then some a else none)=some b):c=true∧a=b:=by
 cases c
 ·cases h
 ·exact ⟨rfl,Option.some.inj h⟩
theorem jt {sz:Nat} {e:TypeId}:∀ {G:List GO} {i j:Nat},gi G sz e i=some j→∃ fs,nth G (j - i)=some (.aH fs sz e)∧i≤j
 | [],i,j,h=>by cases h
 | g :: G,i,j,h=>by
  have step:gi G sz e (i+1)=some j→∃ fs,nth (g :: G) (j - i)=some (.aH fs sz e)∧i≤j:=fun h=>by
   obtain ⟨fs,h1,h2⟩:=jt h
   refine ⟨fs,?_,by omega⟩
   rw [show j - i=(j - (i+1))+1 by omega]
   exact h1
  unfold gi at h
  split at h
  ·rename_i iw
   cases iw
  ·rename_i iw
   obtain ⟨rfl,rfl⟩:=List.cons.inj iw
   split at h
   ·rename_i j' hj
    cases h
    exact step hj
   ·obtain ⟨hc,rfl⟩:=Q0 h
    ·rw [Bool.and_eq_true] at hc
     have h1:=Nat.eq_of_beq_eq_true hc.1
     have h2:=Nat.eq_of_beq_eq_true hc.2
     subst h1 h2
     exact ⟨_,by rw [Nat.sub_self]; rfl,Nat.le_refl _⟩
  ·rename_i x G1 _ _ _ hn iw
   obtain ⟨rfl,rfl⟩:=List.cons.inj iw
   exact step h
theorem aL.D3 {s0:St} {d:Option Tmp} {x y:AV} (h:aL E R w β (s0.put d (.v x)) a) (hw:∀ c,Rel R w x c→Rel R w y c):aL E R w β (s0.put d (.v y)) a:=by
 cases d with
 | none=>exact h
 | some d=>
  simp only [St.put] at h ⊢
  cases hb:Nat.blt d s0.n with
  | false=>rw [hb] at h; exact h
  | true=>
   rw [hb] at h
   refine ⟨h.g,h.b,fun i hi=>?_,h.n,h.d⟩
   by_cases e:d=i
   ·subst e
    rw [aw]
    obtain ⟨c,k1,k2⟩:=h.t d (by rw [aw]; simp)
    rw [aw] at k2
    exact ⟨c,k1,hw c k2⟩
   ·rw [aD e] at hi ⊢
    have:=h.t i (by rw [aD e]; exact hi)
    rw [aD e] at this
    exact this
theorem bn.D3 {s0:St} {x y:AV} (h:bn E R w β s a o (s0.put o.dst (.v x))) (hw:∀ R' w',Ext R w R' w'→∀ c,Rel R' w' x c→Rel R' w' y c):bn E R w β s a o (s0.put o.dst (.v y)):=by
 obtain ⟨nx,v,w',R',β',h1,h2,h3,h4⟩:=h
 refine ⟨nx,v,w',R',β',h1,h2,h3.D3 (hw R' w' h4.ext),?_⟩
 rw [aO] at h4 ⊢
 exact h4
end fams
section ops
variable {E:Env} {R:af} {w:World} {β:Nat→Nat} {s:St} {a:Act} {o:Oper}
theorem eQ {k:LK} {sz esz:Nat} {es:List AV} {c:Value} (h:Rel R w (.list k sz es) c) (dl:es=[]∨sz=esz) :
  eM esz es∧∃ vs,aA R w (ar es) vs∧(∀ v∈vs,v.oneCell'=true)∧vs.length=es.length * esz ∧
   ((es=[]∧vs=[]∧∃ ad,c=.slice ad 0 0∧(ad=none∨k=.gA))∨∃ b o' cap,c=.slice (some ⟨b,o',none⟩) es.length cap∧es.length≤cap∧yP R k b o' es.length cap∧(∀ j v,vs[j]?=some v→w.cell? ((⟨b,o',none⟩:Addr).add j)=some v)∧eY R w b o' esz es):=by
 cases h with
 | gF=>exact ⟨fun e he=>by simp at he,[],.nil,by simp,by simp,.inl ⟨rfl,rfl,_,rfl,.inl rfl⟩⟩
 | gl=>exact ⟨fun e he=>by simp at he,[],.nil,by simp,by simp,.inl ⟨rfl,rfl,_,rfl,.inl rfl⟩⟩
 | ki=>exact ⟨fun e he=>by simp at he,[],.nil,by simp,by simp,.inl ⟨rfl,rfl,_,rfl,.inr rfl⟩⟩
 | jl=>exact ⟨fun e he=>by simp at he,[],.nil,by simp,by simp,.inl ⟨rfl,rfl,_,rfl,.inl rfl⟩⟩
 | jO=>exact ⟨fun e he=>by simp at he,[],.nil,by simp,by simp,.inl ⟨rfl,rfl,_,rfl,.inl rfl⟩⟩
 | @list _ _ _ b o' len cap hr hlen dW Cd=>
  subst hlen
  have gH:eY R w b o' esz es:=by
   rcases dl with rfl | rfl
   ·exact .nil
   ·exact hr
  obtain ⟨g0,vs,g1,g2,g3,g4⟩:=uo gH
  refine ⟨g0,vs,g1,g2,by rw [← g1.length,cq g0],.inr ⟨b,o',cap,rfl,dW,Cd,fun j v hv=>?_,gH⟩⟩
  rw [bO]
  exact g3 j v hv
theorem uy {b esz:Nat} {es:List AV} {vs:List Value} {w:World} {R:af} (h0:eM esz es) (h:aA R w (ar es) vs) (h1:∀ v∈vs,v.oneCell'=true)
  (hc:∀ j v,vs[j]?=some v→w.cell? ⟨b,j,none⟩=some v) (hI:∀ j,j < vs.length→R.I b j):eY R w b 0 esz es:=
 jf h0 (dN.make h h1 (fun j v hv=>by rw [Nat.zero_add]; exact hc j v hv) (fun j hj=>by rw [Nat.zero_add]; exact hI j (by rw [← h.length]; exact hj)))
theorem fS {sz:Nat} {l r:List AV} (h:eM sz l) (k:eM sz r):eM sz (l++r):=fun e he=>by
 rcases List.mem_append.1 he with he | he
 ·exact h e he
 ·exact k e he
theorem eR {l r:List Value} (h:∀ v∈l,v.oneCell'=true) (k:∀ v∈r,v.oneCell'=true):∀ v∈l++r,v.oneCell'=true:=fun v hv=>by
 rcases List.mem_append.1 hv with hv | hv
 ·exact h v hv
 ·exact k v hv
structure M7 (P:Program) (w:World) (t u ty e:TypeId) (i:TypeInfo) (z:Value) (cy:Value) (n:Nat) (us:List Value):Prop where
 zero:n=0→∀ base len cap,len≤cap→(Builtin.append_ #[t,u] ty #[.slice base len cap,cy]).run P w=.ok (.slice base len cap) w
 nil:0 < n→(n:Int)≤9223372036854775807→n * i.bytes≤281474976710656→(Builtin.append_ #[t,u] ty #[.slice none 0 0,cy]).run P w =
   .ok (.slice (some ⟨w.heap.size,0,none⟩) n (grownCap w n 0 e)) (w.drew.alloc (.cells (us.toArray++Builtin.zeroCells z.cells (grownCap w n 0 e - n)) e))
 grow:0 < n→∀ (b:Addr) (sLen dQ:Nat) (rF:List Value),rF.length=sLen * i.size→(∀ j v,rF[j]?=some v→w.cell? (b.add j)=some v)→dQ < sLen+n→((sLen+n:Nat):Int)≤9223372036854775807→Builtin.nextslicecap (sLen+n) dQ * i.bytes≤281474976710656 →
   (Builtin.append_ #[t,u] ty #[.slice (some b) sLen dQ,cy]).run P w=.ok (.slice (some ⟨w.heap.size,0,none⟩) (sLen+n) (grownCap w (sLen+n) dQ e))
    (w.drew.alloc (.cells (rF.toArray++us.toArray++Builtin.zeroCells z.cells (grownCap w (sLen+n) dQ e - (sLen+n))) e))
 room:0 < n→∀ (g k sLen dQ:Nat) (cur:Array Value),w.heap[g]?=some (.cells cur e (0,0))→sLen+n≤dQ→k+sLen * i.size+us.length≤cur.size →
   (Builtin.append_ #[t,u] ty #[.slice (some ⟨g,k,none⟩) sLen dQ,cy]).run P w=.ok (.slice (some ⟨g,k,none⟩) (sLen+n) dQ) (w.setRow g (cur.toList.take (k+sLen * i.size)++us++cur.toList.drop (k+sLen * i.size+us.length)).toArray)
theorem M7.GP {P:Program} {w:World} {t u ty e:TypeId} {i:TypeInfo} {z:Value} {cy:Value} {n:Nat} {us:List Value} (h:M7 P w t u ty e i z cy n us) (hn:0 < n) (g sLen dQ:Nat) (cur:Array Value) (h1:w.heap[g]?=some (.cells cur e (0,0))) (h2:sLen+n≤dQ) (h3:sLen * i.size+us.length≤cur.size) :
  (Builtin.append_ #[t,u] ty #[.slice (some ⟨g,0,none⟩) sLen dQ,cy]).run P w=.ok (.slice (some ⟨g,0,none⟩) (sLen+n) dQ) (w.setRow g (cur.toList.take (sLen * i.size)++us++cur.toList.drop (sLen * i.size+us.length)).toArray):=by
 have:=h.room hn g 0 sLen dQ cur h1 h2 (by omega)
 rw [Nat.zero_add] at this
 exact this
theorem fj {P:Program} (w:World) (t ty e:TypeId) (i:TypeInfo) (ht:P.underlying t=some (.slice e)) (hi:P.info? e=some i)
  (g k sLen dQ:Nat) (cur:Array Value) (hg:w.heap[g]?=some (.cells cur e (0,0)))
  (a:Addr) (m c:Nat) (news:List Value) (hl:news.length=m * i.size) (Q1:∀ j u,news[j]?=some u→w.cell? (a.add j)=some u) (h1:∀ u∈news,u.oneCell'=true)
  (cH:sLen+m≤dQ) (mb:k+sLen * i.size+news.length≤cur.size) :
  (Builtin.append_ #[t,t] ty #[.slice (some ⟨g,k,none⟩) sLen dQ,.slice (some a) m c]).run P w =
   .ok (.slice (some ⟨g,k,none⟩) (sLen+m) dQ) (w.setRow g (cur.toList.take (k+sLen * i.size)++news++cur.toList.drop (k+sLen * i.size+news.length)).toArray):=by
 have hf:=run_firstCells_some (P:=P) w i.size m a m c news hl Q1
 have fF:=run_storeCells_at P g (k+sLen * i.size) e news 0 cur w hg (by simpa using mb) h1
 simp only [Nat.add_zero] at fF
 simp [Builtin.append_,run_underlying ht,sizeOf,typeInfo,hi,Builtin.lenOf,cH,hf,Addr.add_lit,fF]
theorem kI {P:Program} (w:World) (t u ty e:TypeId) (i:TypeInfo) (ht:P.underlying t=some (.slice e)) (hu:P.underlying u=some .string) (hi:P.info? e=some i) (Ji:i.size=1)
  (g k sLen dQ:Nat) (cur:Array Value) (hg:w.heap[g]?=some (.cells cur e (0,0))) (s:ByteArray)
  (cH:sLen+s.size≤dQ) (mb:k+sLen+s.size≤cur.size) :
  (Builtin.append_ #[t,u] ty #[.slice (some ⟨g,k,none⟩) sLen dQ,.string s]).run P w =
   .ok (.slice (some ⟨g,k,none⟩) (sLen+s.size) dQ) (w.setRow g (cur.toList.take (k+sLen)++Lib.strCells s++cur.toList.drop (k+sLen+s.size)).toArray):=by
 have hf:=Lib.run_firstCells_string (P:=P) w 1 s
 have fF:=run_storeCells_at P g (k+sLen) e (Lib.strCells s) 0 cur w hg (by simpa [Lib.strCells_length] using mb) (Lib.strCells_oneCell s)
 simp only [Nat.add_zero,Lib.strCells_length] at fF
 simp [Builtin.append_,run_underlying ht,run_underlying hu,sizeOf,typeInfo,hi,Ji,Builtin.lenOf,cH,hf,Addr.add_lit,fF]
theorem iF (h:aL E R w β s a) {t u:TypeId} {id f off sz len:Nat} {y:AV} {ys:List AV} {cx cy:Value} {us:List Value}
  (dX:∀ {c:Value} {w':World},(Builtin.append_ #[t,u] o.type #[cx,cy]).run E.P w=.ok c w'→(execOp a.eval o).run E.P w=.ok (.value c) w')
  {elem esz eb:Nat} {z:AV} (wT:1≤eb) (hz:z.cells.length=esz) (kG:z.aI=true)
  {ie:TypeInfo} (f2:ie.size=esz) (f3:ie.bytes=eb) (f6:eJ ie=some z)
  (h0:Rel R w (.cL id f off sz len) cx) (hA:∀ zc:Value,ie.zero=some zc→M7 E.P w t u o.type elem ie zc cy (y :: ys).length us)
  (y0:cW esz (y :: ys)) (y1:aA R w (ar (y :: ys)) us) (y2:∀ v∈us,v.oneCell'=true) (y3:us.length=(y :: ys).length * esz)
  {es:List AV} (hid:nth s.G id=some (.cP es esz elem)) (hf:f=es.length) (Uo:off=0) (tC:len=f) (hb:(es.length+(y :: ys).length) * eb≤140737488355328) :
  bn E R w β s a o ((s.aZ (au s.G id (.cP (es++(y :: ys)) esz elem))).put o.dst (.v (.cL id (es.length+(y :: ys).length) 0 esz (es.length+(y :: ys).length)))):=by
 obtain ⟨zc,kz,Af⟩:=cw f6
 have hA:=hA zc kz
 obtain ⟨d1,d2⟩:=Rel.cells (Af R w) kG
 have nS:zc.cells.size=esz:=by rw [← hz,d1.length]; simp
 have mc:0 < (y :: ys).length:=by simp
 have hm:es.length+(y :: ys).length≤140737488355328:=Nat.le_trans (Nat.le_mul_of_pos_right _ wT) hb
 have pJ:(es++(y :: ys)).length=es.length+(y :: ys).length:=List.length_append
 -- where a new block has been made
 have fresh:∀ {xs:List Value} {old:Nat} {r0:RO},nth R.obj id=some r0→(∀ b c,bI r0 (.tok (es.length+(y :: ys).length) b c 0))→cW esz es→aA R w (ar es) xs→(∀ v∈xs,v.oneCell'=true)→xs.length=es.length * esz →
   (Builtin.append_ #[t,u] o.type #[cx,cy]).run E.P w=.ok (.slice (some ⟨w.heap.size,0,none⟩) (es.length+(y :: ys).length) (grownCap w (es.length+(y :: ys).length) old elem)) (w.drew.alloc (.cells (xs.toArray++us.toArray++Builtin.zeroCells zc.cells (grownCap w (es.length+(y :: ys).length) old elem - (es.length+(y :: ys).length))) elem)) →
   bn E R w β s a o ((s.aZ (au s.G id (.cP (es++(y :: ys)) esz elem))).put o.dst (.v (.cL id (es.length+(y :: ys).length) 0 esz (es.length+(y :: ys).length)))):=by
  intro xs old r0 aR hle Av M8 rb uz aW
  have qS:=grownCap_ge w (es.length+(y :: ys).length) old elem
  obtain ⟨r1,r2⟩:=h.M6 (cur:=xs.toArray++us.toArray++Builtin.zeroCells zc.cells (grownCap w (es.length+(y :: ys).length) old elem - (es.length+(y :: ys).length))) (vs:=xs++us) (es':=es++(y :: ys)) hid aR (by rw [pJ]; exact hle) (by rw [pJ]; exact qS) (grownCap_le_maxLen w _ old elem (by unfold maxLen; omega)) (by
   simp only [Array.size_append,List.size_toArray,size_zeroCells,nS,uz,y3,← Nat.add_mul]
   congr 1
   omega) (pI Av y0) (by rw [bQ]; exact M8.append y1) (eR rb y2) (by
   rw [pJ]
   simp only [Array.toList_append]
   exact List.take_left' (by rw [List.length_append,uz,y3,Nat.add_mul]))
  rw [pJ] at r1 r2
  refine ⟨_,_,_,_,β,dX aW,.inl rfl,r1.put o.dst ?_,by rw [aO]; exact r2⟩
  exact Rel.cL (aj aR) ⟨Nat.le_refl _,fun _=>⟨rfl,Nat.zero_add _,.inl (Nat.zero_mul _).symm⟩⟩ qS
 cases h0 with
 | @gB _ _ ro aR hon=>
  have bh:=h.g.obj id _ _ hid aR
  have Up:es=[]:=List.eq_nil_of_length_eq_zero hf.symm
  subst Up
  cases ro with
  | none=>exact bh.elim
  | bi _=>exact bh.elim
  | aH _=>exact bh.elim
  | tok f' g c k0=>
   obtain ⟨_,rfl,_⟩:=bh
   simp [kh] at hon
  | aN=>
   simp only [List.length_nil] at hb
   have aW:=hA.nil mc (by omega) (by rw [f3]; rw [Nat.zero_add] at hb; omega)
   exact fresh (xs:=[]) (old:=0) aR (fun b c=>by simp only [bI]; omega) (fun e he=>by simp at he) .nil (by simp) (by simp) (by simpa using aW)
 | @cL _ _ _ _ _ cap b o' ro aR cM dW=>
  subst hf; subst Uo; subst tC
  obtain ⟨b',c',cur,vs,rfl,g1,g2,g3,g4,g5,g6,g7,g8,g9⟩:=lz h.g hid aR (fun k=>by subst k; exact cM)
  obtain ⟨rfl,Cr,nY⟩:=cM.2 rfl
  rw [Nat.zero_add] at Cr
  subst Cr
  have BS:vs.length=es.length * esz:=by rw [← g7.length,bp g1]
  have fw:∀ j v,vs[j]?=some v→cur[j]?=some v:=fun j v hj=>by
   rw [← g9,List.getElem?_take] at hj
   split at hj
   ·rw [← Array.getElem?_toList]; exact hj
   ·cases hj
  by_cases cH:es.length+(y :: ys).length≤cap
  ·have nT:o'=0:=by
    rcases nY with nY | nY
    ·rw [nY,Nat.zero_mul]
    ·rw [List.length_cons] at cH; omega
   subst nT
   have hle:(es.length+(y :: ys).length) * esz≤cap * esz:=Nat.mul_le_mul_right _ cH
   have aW:=hA.GP mc b es.length cap cur g2 cH (by rw [f2,y3,← Nat.add_mul,g5]; exact hle)
   rw [f2] at aW
   have gd:cur.toList.length=cap * esz:=by rw [show cur.toList.length=cur.size from Array.length_toList,g5]
   obtain ⟨r1,r2⟩:=h.JV (cur2:=(cur.toList.take (es.length * esz)++us++cur.toList.drop (es.length * esz+us.length)).toArray) (vs:=vs++us) (es':=es++(y :: ys)) hid aR (by rw [pJ]; omega) (by rw [pJ]; exact cH) g2 (by
    rw [List.size_toArray,← Array.length_toList]
    simp only [List.length_append,List.length_take,List.length_drop,y3,gd]
    rw [Nat.add_mul] at hle
    omega) (pI g1 y0) (by rw [bQ]; exact g7.append y1) (eR g8 y2) (by
    rw [pJ,List.toList_toArray,g9]
    exact List.take_left' (by rw [List.length_append,BS,y3,Nat.add_mul]))
   rw [pJ] at r1 r2
   refine ⟨_,_,_,_,β,dX aW,.inl rfl,r1.put o.dst ?_,by rw [aO]; exact r2⟩
   exact Rel.cL (aj aR) ⟨Nat.le_refl _,fun _=>⟨rfl,Nat.zero_add _,.inl (Nat.zero_mul _).symm⟩⟩ cH
  ·have aW:=hA.grow mc ⟨b,o',none⟩ es.length cap vs (by rw [BS,f2]) (fun j v hj=>by
    rw [bO]
    have BT:=(List.getElem?_eq_some_iff.1 hj).1
    have nT:o'=0:=by
     rcases nY with nY | nY
     ·rw [nY,Nat.zero_mul]
     ·have:es.length=0:=by omega
      rw [BS,this] at BT
      omega
    subst nT
    rw [Nat.zero_add,cell_of_row w b j cur elem (0,0) g2]
    exact fw j v hj) (by omega) (by omega) (growslice_fits (by omega) (by rw [f3]; exact hb))
   exact fresh (xs:=vs) (old:=cap) aR (fun b c=>⟨by omega,fun e=>by omega⟩) g1 g7 g8 BS aW
section rows
variable {E:Env} {R R':af} {w w':World} {β:Nat→Nat} {s:St} {a:Act} {o:Oper}
theorem xB.mono {sz:Nat} {e:TypeId} {row:List AV} {t:TR} (h:xB R w sz e row t) (ex:Ext R w R' w') (hb:∀ f b c,t=.tok f b c→w'.heap[b]?=w.heap[b]?∧∀ o,R'.I b o→R.I b o):xB R' w' sz e row t:=by
 cases t with
 | aN=>exact h
 | full _=>exact h
 | tok f b c=>
  obtain ⟨h5,jm,cur,vs,k1,k2,k3,k4,k5,k6,k7,k8⟩:=h
  obtain ⟨m1,m2⟩:=hb f b c rfl
  exact ⟨h5,jm,cur,vs,m1.trans k1,k2,k3,k4,fun o ho=>k5 o (m2 o ho),k6.mono ex,k7,k8⟩
theorem aL.GQ (h:aL E R w β s a) {rows:List (List AV)} {row':List AV} {elem:TypeId} {sz id j n b c:Nat} {ts:List TR} {t0:TR}
  (hg:nth s.G id=some (.ga rows sz elem)) (hid:nth R.obj id=some (.aH ts)) (hj:nth ts j=some t0)
  (hb:b=w.heap.size∨∃ f c0,t0=.tok f b c0)
  (e:Ext R w (R.reset id (.aH (au ts j (.tok n b c)))) w')
  (old:∀ b',b'≠b→b' < w.heap.size→w'.heap[b']?=w.heap[b']?)
  (dl:w.heap.size≤w'.heap.size) (iW:xB (R.reset id (.aH (au ts j (.tok n b c)))) w' sz elem row' (.tok n b c))
  (hd:E.lo≤w.drawn→E.lo≤w'.drawn) (os:w'.os=w.os) (tp:w'.tape=w.tape) (ou:w'.output=w.output) :
  aL E (R.reset id (.aH (au ts j (.tok n b c)))) w' β (s.aZ (au s.G id (.ga (au rows j row') sz elem))) a ∧
  Step R w β s.boxes (R.reset id (.aH (au ts j (.tok n b c)))) w' β s.boxes:=by
 obtain ⟨m1,m2,m3⟩:=h.g.obj id _ _ hg hid
 have bM:∀ x,RO.has (.aH ts) x→x < w.heap.size:=fun x hx=>h.g.bq ⟨id,_,hid,hx⟩
 have iD:∀ x,RO.has (.aH (au ts j (.tok n b c))) x→x=b∨RO.has (.aH ts) x:=fun x ⟨j',f,c1,BT⟩=>by
  rcases bK BT with ⟨_,hx,_⟩ | ⟨_,BT⟩
  ·cases hx; exact .inl rfl
  ·exact .inr ⟨j',f,c1,BT⟩
 have Q2:b < w.heap.size→RO.has (.aH ts) b:=fun hl=>by
  rcases hb with hb | ⟨f,c0,rfl⟩
  ·omega
  ·exact ⟨j,f,c0,hj⟩
 have live:∀ x,x < w.heap.size→Live (R.reset id (.aH (au ts j (.tok n b c)))) x→Live R x:=fun x hx ⟨i,r,h1,h2⟩=>by
  rcases ap hid h1 with ⟨rfl,rfl⟩ | ⟨_,h1⟩
  ·rcases iD x h2 with rfl | h2
   ·exact ⟨i,_,hid,Q2 hx⟩
   ·exact ⟨i,_,hid,h2⟩
  ·exact ⟨i,r,h1,h2⟩
 have M9:∀ i r x,nth R.obj i=some r→i≠id→r.has x→x≠b:=fun i r x hi bW hx e=>by
  subst e
  have hl:=h.g.bq ⟨i,r,hi,hx⟩
  exact bW (h.g.inj i id _ _ x hi hid hx (Q2 hl))
 have uA:∀ j' f x c1,nth ts j'=some (.tok f x c1)→j≠j'→x≠b:=fun j' f x c1 BT bW e=>by
  subst e
  have hl:=bM x ⟨j',f,c1,BT⟩
  rcases hb with hb | ⟨f0,c0,rfl⟩
  ·omega
  ·exact bW (m2 _ _ _ _ _ _ _ hj BT)
 have ux:∀ k cs,cO s.boxes k=some cs→β k≠b:=fun k cs hk e=>by
  have hl:=h.cI (.inr ⟨k,cs,hk,rfl⟩)
  exact (h.b.box k cs hk).2.2 ⟨id,_,hid,by rw [e]; exact Q2 (e ▸ hl)⟩
 refine ⟨⟨⟨by simp [St.aZ,af.reset,h.g.len],fun i gg r jP h2=>?_,fun i j' ri rj x jP h2 b1 b2=>?_,fun b o hi=>Nat.lt_of_lt_of_le (h.g.wf b o hi) dl,fun g cs hg=>(h.g.cG g cs hg).mono e,hd h.g.lo⟩,?_,h.t.mono e,h.n,h.d.mono e⟩,?_⟩
 ·rcases ap hid h2 with ⟨rfl,rfl⟩ | ⟨bW,h2⟩
  ·simp only [St.aZ] at jP
   rw [aj hg] at jP
   cases jP
   refine ⟨by rw [de,de]; exact m1,fun i1 i2 f1 b1 c1 f2 c2 h1 h2=>?_,fun j' row t gH rG=>?_⟩
   ·rcases bK h1 with ⟨q1,q2,_⟩ | ⟨q1,q2⟩
    ·rcases bK h2 with ⟨p1,p2,_⟩ | ⟨p1,p2⟩
     ·omega
     ·cases q2
      exact absurd rfl (uA _ _ _ _ p2 p1)
    ·rcases bK h2 with ⟨p1,p2,_⟩ | ⟨p1,p2⟩
     ·cases p2
      exact absurd rfl (uA _ _ _ _ q2 q1)
     ·exact m2 _ _ _ _ _ _ _ q2 p2
   ·rcases bK rG with ⟨q1,q2,_⟩ | ⟨q1,q2⟩
    ·subst q1; subst q2
     rcases bK gH with ⟨_,p2,_⟩ | ⟨p1,_⟩
     ·subst p2; exact iW
     ·exact absurd rfl p1
    ·rcases bK gH with ⟨p1,_,_⟩ | ⟨_,p2⟩
     ·exact absurd p1 q1
     ·exact (m3 j' row t p2 q2).mono e fun f b1 c1 ht=>⟨old b1 (uA j' f b1 c1 (ht ▸ q2) q1) (bM b1 ⟨j',f,c1,ht ▸ q2⟩),fun _ ho=>ho⟩
  ·simp only [St.aZ] at jP
   rw [aB (Ne.symm bW)] at jP
   exact (h.g.obj i gg r jP h2).mono e (fun x hx=>old x (M9 i r x h2 bW hx) (h.g.bq ⟨i,r,h2,hx⟩)) (fun b o _ hi=>hi)
 ·rcases ap hid jP with ⟨g3,e1⟩ | ⟨g3,g1⟩
  ·rcases ap hid h2 with ⟨g4,e2⟩ | ⟨g4,g2⟩
   ·omega
   ·rw [e1] at b1
    rcases iD x b1 with rfl | b1
    ·exact absurd rfl (M9 j' rj x g2 g4 b2)
    ·exact g3.trans (h.g.inj id j' _ _ x hid g2 b1 b2)
  ·rcases ap hid h2 with ⟨g4,e2⟩ | ⟨g4,g2⟩
   ·rw [e2] at b2
    rcases iD x b2 with rfl | b2
    ·exact absurd rfl (M9 i ri x g1 g3 b1)
    ·exact (h.g.inj i id _ _ x g1 hid b1 b2).trans g4.symm
   ·exact h.g.inj i j' ri rj x g1 g2 b1 b2
 ·exact h.b.bl e (fun k cs hk=>old _ (ux k cs hk) (h.cI (.inr ⟨k,cs,hk,rfl⟩))) (fun k cs o hk hi=>hi) (fun k cs hk hl=>live _ (h.cI (.inr ⟨k,cs,hk,rfl⟩)) hl)
 ·refine ⟨e,os,tp,ou,dl,fun x hx hn=>old x (fun e=>hn (.inl ⟨id,_,hid,by rw [e]; exact Q2 (e ▸ hx)⟩)) hx,fun x hx ho=>?_,fun b o hi hb _=>hi⟩
  rcases ho with ho | ho
  ·exact .inl (live x hx ho)
  ·exact .inr ho
theorem kJ {id:Nat} {r0 r1:RO} (hid:nth R.obj id=some r0) (hle:bI r0 r1) (h:Ext R w R w'):Ext R w (R.reset id r1) w':=by
 refine ⟨fun _ _ h=>h,h.cell,fun i r hr=>?_,h.lp⟩
 by_cases ei:id=i
 ·subst ei
  rw [hid] at hr
  cases hr
  exact ⟨_,aj hid,hle⟩
 ·exact ⟨r,by rw [af.reset,aB ei]; exact hr,bI.refl r⟩
theorem xO {ts:List TR} {j:Nat} {t0 t1:TR} (hj:nth ts j=some t0) (hle:eZ t0 t1):pz ts (au ts j t1):=fun i t hi=>by
 by_cases e:j=i
 ·subst e
  rw [hj] at hi
  cases hi
  exact ⟨t1,aj hj,hle⟩
 ·exact ⟨t,by rw [aB e]; exact hi,eZ.refl t⟩
theorem td (h:aL E R w β s a) {t u:TypeId} {id j sz len:Nat} {y:AV} {ys:List AV} {cx cy:Value} {us:List Value}
  (dX:∀ {c:Value} {w':World},(Builtin.append_ #[t,u] o.type #[cx,cy]).run E.P w=.ok c w'→(execOp a.eval o).run E.P w=.ok (.value c) w')
  {elem esz eb:Nat} {z:AV} (wT:1≤eb) (hz:z.cells.length=esz) (kG:z.aI=true)
  {ie:TypeInfo} (f2:ie.size=esz) (f3:ie.bytes=eb) (f6:eJ ie=some z)
  (h0:Rel R w (.fx id j sz len) cx) (hA:∀ zc:Value,ie.zero=some zc→M7 E.P w t u o.type elem ie zc cy (y :: ys).length us)
  (y0:eM esz (y :: ys)) (y1:aA R w (ar (y :: ys)) us) (y2:∀ v∈us,v.oneCell'=true) (y3:us.length=(y :: ys).length * esz)
  {rows:List (List AV)} (hid:nth s.G id=some (.ga rows esz elem)) (L5:j < rows.length) (tC:len=(rowOf rows j).length) (hb:((rowOf rows j).length+(y :: ys).length) * eb≤140737488355328) :
  bn E R w β s a o ((s.aZ (au s.G id (.ga (au rows j (rowOf rows j++(y :: ys))) esz elem))).put o.dst (.v (.fx id j esz (len+(y :: ys).length)))):=by
 subst tC
 obtain ⟨zc,kz,Af⟩:=cw f6
 have hA:=hA zc kz
 obtain ⟨d1,d2⟩:=Rel.cells (Af R w) kG
 have nS:zc.cells.size=esz:=by rw [← hz,d1.length]; simp
 have mc:0 < (y :: ys).length:=by simp
 have hm:(rowOf rows j).length+(y :: ys).length≤140737488355328:=Nat.le_trans (Nat.le_mul_of_pos_right _ wT) hb
 obtain ⟨ro,aR⟩:∃ ro,nth R.obj id=some ro:=by
  have:=aQ hid
  rw [← h.g.len] at this
  exact ⟨R.obj[id],by rw [aE]; exact List.getElem?_eq_getElem this⟩
 have bh:=h.g.obj id _ _ hid aR
 cases ro with
 | none=>exact bh.elim
 | aN=>exact bh.elim
 | bi _=>exact bh.elim
 | tok _ _ _ _=>exact bh.elim
 | aH ts=>
 obtain ⟨m1,m2,m3⟩:=bh
 obtain ⟨t0,L6⟩:∃ t0,nth ts j=some t0:=⟨ts[j],by rw [aE]; exact List.getElem?_eq_getElem (by omega)⟩
 have iW:nth rows j=some (rowOf rows j):=by
  have:nth rows j=some rows[j]:=by rw [aE]; exact List.getElem?_eq_getElem L5
  unfold rowOf
  rw [this]
 have Td:=m3 j _ _ iW L6
 have pJ:(rowOf rows j++(y :: ys)).length=(rowOf rows j).length+(y :: ys).length:=List.length_append
 generalize rowOf rows j=es at *
 -- where a new block has been made
 have fresh:∀ {xs:List Value} {old:Nat},(∀ b c,eZ t0 (.tok (es.length+(y :: ys).length) b c))→eM esz es→aA R w (ar es) xs→(∀ v∈xs,v.oneCell'=true)→xs.length=es.length * esz →
   (Builtin.append_ #[t,u] o.type #[cx,cy]).run E.P w=.ok (.slice (some ⟨w.heap.size,0,none⟩) (es.length+(y :: ys).length) (grownCap w (es.length+(y :: ys).length) old elem)) (w.drew.alloc (.cells (xs.toArray++us.toArray++Builtin.zeroCells zc.cells (grownCap w (es.length+(y :: ys).length) old elem - (es.length+(y :: ys).length))) elem)) →
   bn E R w β s a o ((s.aZ (au s.G id (.ga (au rows j (es++(y :: ys))) esz elem))).put o.dst (.v (.fx id j esz (es.length+(y :: ys).length)))):=by
  intro xs old hle Av M8 rb uz aW
  have qS:=grownCap_ge w (es.length+(y :: ys).length) old elem
  have e:=kJ (r1:=.aH (au ts j (.tok (es.length+(y :: ys).length) w.heap.size (grownCap w (es.length+(y :: ys).length) old elem)))) aR (xO L6 (hle _ _)) (show Ext R w R (w.drew.alloc (.cells (xs.toArray++us.toArray++Builtin.zeroCells zc.cells (grownCap w (es.length+(y :: ys).length) old elem - (es.length+(y :: ys).length))) elem)) from
   ⟨fun _ _ h=>h,fun b o hi=>bo (heap_alloc_old w.drew _ b (h.g.wf b o hi)) o,fun i r hr=>⟨r,hr,bI.refl r⟩,.old fun b hb=>heap_alloc_old w.drew _ b hb⟩)
  obtain ⟨r1,r2⟩:=h.GQ (row':=es++(y :: ys)) hid aR L6 (.inl rfl) e (fun b _ hb=>heap_alloc_old w.drew _ b hb) (by simp) ⟨pJ.symm,fS Av y0,_,xs++us,heap_alloc_new w.drew _,qS,grownCap_le_maxLen w _ old elem (by unfold maxLen; omega),by
   simp only [Array.size_append,List.size_toArray,size_zeroCells,nS,uz,y3,← Nat.add_mul]
   congr 1
   omega,fun o hi=>by have:=h.g.wf _ _ hi; omega,by rw [bQ]; exact (M8.append y1).mono e,eR rb y2,by
   simp only [Array.toList_append]
   exact List.take_left' (by rw [List.length_append,uz,y3,Nat.add_mul])⟩ (fun h=>Nat.le_succ_of_le h) rfl rfl rfl
  refine ⟨_,_,_,_,β,dX aW,.inl rfl,r1.put o.dst ?_,by rw [aO]; exact r2⟩
  exact Rel.fx (aj aR) ⟨_,aj L6,Nat.le_refl _,fun _=>⟨rfl,.inl rfl,rfl⟩⟩ qS
 generalize hlen:es.length=len at h0
 cases h0 with
 | py E1 hon=>
  have Up:es=[]:=List.eq_nil_of_length_eq_zero hlen
  subst Up
  simp only [List.length_nil] at hb
  have aW:=hA.nil mc (by omega) (by rw [f3]; rw [Nat.zero_add] at hb; omega)
  refine fresh (xs:=[]) (old:=0) (fun b c=>?_) (fun e he=>by simp at he) .nil (by simp) (by simp) (by simpa using aW)
  cases t0 with
  | aN=>simp only [eZ]; simp
  | full _=>exact Td.elim
  | tok f b1 c1=>
   have:=Td.1
   simp only [eZ,List.length_nil,List.length_cons] at *
   exact ⟨by omega,fun e=>by omega⟩
 | @fx _ _ _ _ cap b o' iB E1 cM dW=>
  rw [aR] at E1
  cases E1
  obtain ⟨t1,q1,q2⟩:=cM
  rw [L6] at q1
  cases q1
  subst hlen
  cases t0 with
  | aN=>exact q2.elim
  | full _=>exact Td.elim
  | tok f b1 c1=>
  obtain ⟨g0,wL,cur,vs,g2,g3,g4,g5,g6,g7,g8,g9⟩:=Td
  obtain ⟨rfl,nY,rfl⟩:=q2.2 g0.symm
  subst g0
  have g1:=wL.g
  have BS:vs.length=es.length * esz:=by rw [← g7.length,bp g1]
  have fw:∀ j v,vs[j]?=some v→cur[j]?=some v:=fun j v hj=>by
   rw [← g9,List.getElem?_take] at hj
   split at hj
   ·rw [← Array.getElem?_toList]; exact hj
   ·cases hj
  by_cases cH:es.length+(y :: ys).length≤cap
  ·have nT:o'=0:=by
    rcases nY with nY | nY
    ·exact nY
    ·rw [List.length_cons] at cH; omega
   subst nT
   have hle:(es.length+(y :: ys).length) * esz≤cap * esz:=Nat.mul_le_mul_right _ cH
   have aW:=hA.GP mc b es.length cap cur g2 cH (by rw [f2,y3,← Nat.add_mul,g5]; exact hle)
   rw [f2] at aW
   have gd:cur.toList.length=cap * esz:=by rw [show cur.toList.length=cur.size from Array.length_toList,g5]
   have e:=kJ (r1:=.aH (au ts j (.tok (es.length+(y :: ys).length) b cap))) aR (xO L6 ⟨by omega,fun _=>⟨rfl,rfl⟩⟩) (fN (R:=R) (w:=w) g6 (cur.toList.take (es.length * esz)++us++cur.toList.drop (es.length * esz+us.length)).toArray)
   obtain ⟨r1,r2⟩:=h.GQ (row':=es++(y :: ys)) hid aR L6 (.inr ⟨_,_,rfl⟩) e (fun b' bW _=>setRow_other w _ b' _ bW) (by simp) ⟨pJ.symm,fS wL y0,_,vs++us,setRow_heap w _ _ _ _ (0,0) g2,cH,g4,by
    rw [List.size_toArray]
    simp only [List.length_append,List.length_take,List.length_drop,y3,gd]
    rw [Nat.add_mul] at hle
    omega,g6,by rw [bQ]; exact (g7.append y1).mono e,eR g8 y2,by
    rw [List.toList_toArray,g9]
    exact List.take_left' (by rw [List.length_append,BS,y3,Nat.add_mul])⟩ (fun h=>h) rfl rfl rfl
   refine ⟨_,_,_,_,β,dX aW,.inl rfl,r1.put o.dst ?_,by rw [aO]; exact r2⟩
   exact Rel.fx (aj aR) ⟨_,aj L6,Nat.le_refl _,fun _=>⟨rfl,.inl rfl,rfl⟩⟩ cH
  ·have aW:=hA.grow mc ⟨b,o',none⟩ es.length cap vs (by rw [BS,f2]) (fun j v hj=>by
    have BT:=(List.getElem?_eq_some_iff.1 hj).1
    have nT:o'=0:=by
     rcases nY with nY | nY
     ·exact nY
     ·have:es.length=0:=by omega
      rw [BS,this] at BT
      omega
    subst nT
    rw [bO,Nat.zero_add,cell_of_row w b j cur elem (0,0) g2]
    exact fw j v hj) (by omega) (by omega) (growslice_fits (by omega) (by rw [f3]; exact hb))
   exact fresh (xs:=vs) (old:=cap) (fun b c=>⟨by omega,fun e=>by rw [List.length_cons] at e; omega⟩) wL g7 g8 BS aW
end rows
theorem kK (h:aL E R w β s a) {t u:TypeId} {id j:Nat} {es:List AV} {y:AV} {ys:List AV} {cx cy:Value} {us:List Value}
  (dX:∀ {c:Value} {w':World},(Builtin.append_ #[t,u] o.type #[cx,cy]).run E.P w=.ok c w'→(execOp a.eval o).run E.P w=.ok (.value c) w')
  {elem esz eb:Nat} {z:AV} (wT:1≤eb) (hz:z.cells.length=esz) (kG:z.aI=true)
  {ie:TypeInfo} (f2:ie.size=esz) (f3:ie.bytes=eb) (f6:eJ ie=some z)
  (h0:Rel R w (.list (.aH id j) esz es) cx) (hA:∀ zc:Value,ie.zero=some zc→M7 E.P w t u o.type elem ie zc cy (y :: ys).length us)
  (y0:eM esz (y :: ys)) (y1:aA R w (ar (y :: ys)) us) (y2:∀ v∈us,v.oneCell'=true) (y3:us.length=(y :: ys).length * esz)
  {fs:List Nat} (fc:nth s.G id=some (.aH fs esz elem)) (tE:nth fs j=some es.length) (hb:(es.length+(y :: ys).length) * eb≤140737488355328) :
  bn E R w β s a o ((s.aZ (au s.G id (.aH (au fs j (es.length+(y :: ys).length)) esz elem))).put o.dst (.v (.list (.aH id j) esz (es++(y :: ys))))):=by
 obtain ⟨zc,kz,Af⟩:=cw f6
 have hA:=hA zc kz
 obtain ⟨d1,d2⟩:=Rel.cells (Af R w) kG
 have nS:zc.cells.size=esz:=by rw [← hz,d1.length]; simp
 have mc:0 < (y :: ys).length:=by simp
 have hm:es.length+(y :: ys).length≤140737488355328:=Nat.le_trans (Nat.le_mul_of_pos_right _ wT) hb
 obtain ⟨x0,xs,x1,x2,x3,x4⟩:=eQ (esz:=esz) h0 (.inr rfl)
 obtain ⟨ro,aR⟩:∃ ro,nth R.obj id=some ro:=by
  cases h0 with
  | jO q _=>exact ⟨_,q⟩
  | list _ _ _ hk=>obtain ⟨ro,q,_⟩:=hk; exact ⟨ro,q⟩
 have bh:=h.g.obj id _ _ fc aR
 cases ro with
 | none=>exact bh.elim
 | aN=>exact bh.elim
 | bi _=>exact bh.elim
 | tok _ _ _ _=>exact bh.elim
 | aH ts=>
 have bh:ub R w esz elem fs ts:=bh
 have L5:j < ts.length:=by rw [bh.1]; exact aQ tE
 obtain ⟨tr,ht⟩:∃ tr,nth ts j=some tr:=⟨ts[j],by rw [aE]; exact List.getElem?_eq_getElem L5⟩
 have lf:=bh.2.2 j _ _ tE ht
 have AA:∀ i f b c,nth ts i=some (.tok f b c)→b < w.heap.size:=fun i f b c hi=>h.g.bq ⟨id,_,aR,i,f,c,hi⟩
 -- where a new block has been made
 have fresh:∀ {old:Nat},(∀ b c,eZ tr (.tok (es.length+(y :: ys).length) b c)) →
   (Builtin.append_ #[t,u] o.type #[cx,cy]).run E.P w=.ok (.slice (some ⟨w.heap.size,0,none⟩) (es.length+(y :: ys).length) (grownCap w (es.length+(y :: ys).length) old elem)) (w.drew.alloc (.cells (xs.toArray++us.toArray++Builtin.zeroCells zc.cells (grownCap w (es.length+(y :: ys).length) old elem - (es.length+(y :: ys).length))) elem)) →
   bn E R w β s a o ((s.aZ (au s.G id (.aH (au fs j (es.length+(y :: ys).length)) esz elem))).put o.dst (.v (.list (.aH id j) esz (es++(y :: ys))))):=by
  intro old hle aW
  have qS:=grownCap_ge w (es.length+(y :: ys).length) old elem
  have X7:=grownCap_le_maxLen w (es.length+(y :: ys).length) old elem (by unfold maxLen; omega)
  have L7:(xs.toArray++us.toArray++Builtin.zeroCells zc.cells (grownCap w (es.length+(y :: ys).length) old elem - (es.length+(y :: ys).length))).size=grownCap w (es.length+(y :: ys).length) old elem * esz:=by
   simp only [Array.size_append,List.size_toArray,size_zeroCells,nS,x3,y3,← Nat.add_mul]
   congr 1
   omega
  generalize gI:xs.toArray++us.toArray++Builtin.zeroCells zc.cells (grownCap w (es.length+(y :: ys).length) old elem - (es.length+(y :: ys).length))=cur at aW L7
  have o1:=One.drew w (.cells cur elem)
  obtain ⟨r1,r2⟩:=h.M1 o1 (n:=(es.length+(y :: ys).length) * esz) (r1:=.aH (au ts j (.tok (es.length+(y :: ys).length) w.heap.size (grownCap w (es.length+(y :: ys).length) old elem)))) (go:=.aH (au fs j (es.length+(y :: ys).length)) esz elem) fc aR
   (pz.set ht (hle _ _)) (fun b hb=>DW hb) (ub.set bh ⟨rfl,cur,o1.new,qS,X7,L7,fun o' nT hi=>by
    rcases hi with hi | ⟨_,hi⟩
    ·have:=h.g.wf _ _ hi
     omega
    ·omega⟩ (fun i f c hi=>absurd (AA i f _ c hi) (Nat.lt_irrefl _)) (fun i f b c _ hi=>⟨o1.old b (AA i f b c hi),fun o' nT=>by
     rcases nT with nT | ⟨nT,_⟩
     ·exact nT
     ·have:=AA i f b c hi
      omega⟩))
  have e:=r2.ext
  refine ⟨_,_,_,_,β,dX aW,.inl rfl,r1.put o.dst ?_,by rw [aO]; exact r2⟩
  refine Rel.list (uy (vs:=xs++us) (fS x0 y0) (by rw [bQ]; exact (x1.mono e).append (y1.mono e)) (eR x2 y2) (fun j v hj=>?_) (fun j hj=>.inr ⟨rfl,by rw [List.length_append,x3,y3,← Nat.add_mul] at hj; exact hj⟩)) (by simp) qS ⟨_,aj aR,_,aj ht,Nat.le_refl _,fun _=>⟨rfl,.inl rfl,rfl⟩⟩
  rw [cell_of_row _ _ j _ _ _ o1.new,← gI]
  have bM:=(List.getElem?_eq_some_iff.1 hj).1
  rw [← Array.getElem?_toList]
  simp only [Array.toList_append,List.append_assoc]
  rw [← List.append_assoc,List.getElem?_append_left bM]
  exact hj
 rcases x4 with ⟨rfl,rfl,ad,rfl,hd⟩ | ⟨b,o',cap,rfl,Q3,xk,sj,xE⟩
 ·obtain rfl:ad=none:=by
   rcases hd with hd | hd
   ·exact hd
   ·cases hd
  simp only [List.length_nil] at hb lf
  have aW:=hA.nil mc (by simp only [List.length_nil] at hm; omega) (by rw [f3]; rw [Nat.zero_add] at hb; omega)
  cases tr with
  | aN=>exact fresh (old:=0) (fun b c=>by simp only [eZ,List.length_cons]; omega) (by simpa using aW)
  | full f'=>
   have lf:f'=0:=lf
   subst lf
   exact fresh (old:=0) (fun b c=>by simp only [eZ,List.length_cons]; omega) (by simpa using aW)
  | tok f' g c=>
   obtain ⟨lf,_⟩:=lf
   subst lf
   exact fresh (old:=0) (fun b c=>by simp only [eZ,List.length_cons,List.length_nil]; omega) (by simpa using aW)
 ·obtain ⟨iB,E1,sh⟩:=xk
  rw [aR] at E1
  cases E1
  obtain ⟨t',q3,sh⟩:=sh
  rw [ht] at q3
  cases q3
  cases tr with
  | aN=>exact sh.elim
  | full f'=>
   have hf:f'=es.length:=lf
   subst hf
   have dW:=sh.2 rfl
   subst dW
   have aW:=hA.grow mc ⟨b,o',none⟩ es.length es.length xs (by rw [x3,f2]) sj (by omega) (by omega) (growslice_fits (by omega) (by rw [f3]; exact hb))
   exact fresh (fun b c=>by simp only [eZ]; omega) aW
  | tok f' g c=>
   obtain ⟨rfl,cur,gI,k1,k3,k4,k5⟩:=lf
   obtain ⟨rfl,nY,rfl⟩:=sh.2 rfl
   by_cases cH:es.length+(y :: ys).length≤cap
   ·have Uo:o'=0:=by
     rcases nY with nY | nY
     ·exact nY
     ·rw [List.length_cons] at cH; omega
    subst Uo
    have hle:(es.length+(y :: ys).length) * esz≤cap * esz:=Nat.mul_le_mul_right _ cH
    have aW:=hA.GP mc b es.length cap cur gI cH (by rw [f2,y3,← Nat.add_mul,k4]; exact hle)
    rw [f2] at aW
    generalize GR:(cur.toList.take (es.length * esz)++us++cur.toList.drop (es.length * esz+us.length)).toArray=cur2 at aW
    have gd:cur.toList.length=cap * esz:=by rw [show cur.toList.length=cur.size from Array.length_toList,k4]
    have hll:es.length * esz≤cap * esz:=Nat.mul_le_mul_right _ k1
    have wU:cur2.size=cap * esz:=by
     rw [← GR,List.size_toArray]
     simp only [List.length_append,List.length_take,List.length_drop,y3,gd]
     rw [Nat.add_mul] at hle
     omega
    have uu:∀ o',R.I b o'→cur2[o']?=cur[o']?:=fun o' hi=>by
     have ho:o' < es.length * esz:=Nat.lt_of_not_le fun hle=>k5 o' hle hi
     rw [← GR,List.append_assoc]
     simp only [List.getElem?_toArray]
     rw [List.getElem?_append_left (by rw [List.length_take]; omega),List.getElem?_take,if_pos ho,Array.getElem?_toList]
    have new:(w.setRow b cur2).heap[b]?=some (.cells cur2 elem (0,0)):=setRow_heap w b cur cur2 elem (0,0) gI
    obtain ⟨r0,r1,r2⟩:=h.JQ (cur2:=cur2) (n:=(es.length+(y :: ys).length) * esz) (r1:=.aH (au ts j (.tok (es.length+(y :: ys).length) b cap))) (go:=.aH (au fs j (es.length+(y :: ys).length)) esz elem) fc aR ⟨j,_,_,ht⟩
     (pz.set ht ⟨by omega,fun e=>by omega⟩) (fun b' iQ=>(DW iQ).elim (fun e=>by rw [e]; exact ⟨j,_,_,ht⟩) (fun x=>x)) gI uu (fun _=>ub.set bh ⟨rfl,cur2,new,cH,k3,wU,fun o' nT hi=>by
      rcases hi with hi | ⟨_,hi⟩
      ·exact k5 o' (Nat.le_trans (Nat.mul_le_mul_right _ (Nat.le_add_right _ _)) nT) hi
      ·omega⟩ (fun i f c hi=>bh.2.1 i j _ _ _ _ _ hi ht) (fun i f b' c bW hi=>by
       have Gr:b'≠b:=fun e=>by subst e; exact bW (bh.2.1 i j _ _ _ _ _ hi ht)
       refine ⟨setRow_other w b b' cur2 Gr,fun o' nT=>?_⟩
       rcases nT with nT | ⟨nT,_⟩
       ·exact nT
       ·exact absurd nT Gr))
    refine ⟨_,_,_,_,β,dX aW,.inl rfl,r1.put o.dst ?_,by rw [aO]; exact r2⟩
    have X8:cur.toList.take (es.length * esz)=xs:=by
     have Jk:xs.length=es.length * esz:=x3
     apply List.ext_getElem?
     intro j
     rw [List.getElem?_take]
     split
     ·rename_i hj
      have BT:j < xs.length:=by omega
      have sW:=sj j xs[j] (List.getElem?_eq_getElem BT)
      rw [bO,Nat.zero_add,cell_of_row w b j cur elem (0,0) gI] at sW
      rw [Array.getElem?_toList,sW,List.getElem?_eq_getElem BT]
     ·rw [List.getElem?_eq_none (by omega)]
    refine Rel.list (uy (vs:=xs++us) (fS x0 y0) (by rw [bQ]; exact (x1.mono r0).append (y1.mono r0)) (eR x2 y2) (fun j v hj=>?_) (fun j hj=>.inr ⟨rfl,by rw [List.length_append,x3,y3,← Nat.add_mul] at hj; exact hj⟩)) (by simp) cH ⟨_,aj aR,_,aj ht,Nat.le_refl _,fun _=>⟨rfl,.inl rfl,rfl⟩⟩
    rw [cell_of_row _ _ j _ _ _ new,← GR,X8]
    simp only [List.getElem?_toArray]
    rw [List.getElem?_append_left (List.getElem?_eq_some_iff.1 hj).1]
    exact hj
   ·have aW:=hA.grow mc ⟨b,o',none⟩ es.length cap xs (by rw [x3,f2]) sj (by omega) (by omega) (growslice_fits (by omega) (by rw [f3]; exact hb))
    exact fresh (fun b c=>⟨by omega,fun e=>by omega⟩) aW
theorem te (h:aL E R w β s a) {t u:TypeId} {id j:Nat} {es:List AV} {y:AV} {ys:List AV} {cx cy:Value} {us:List Value}
  (dX:∀ {c:Value} {w':World},(Builtin.append_ #[t,u] o.type #[cx,cy]).run E.P w=.ok c w'→(execOp a.eval o).run E.P w=.ok (.value c) w')
  {elem esz eb:Nat} {z:AV} (wT:1≤eb) (hz:z.cells.length=esz) (kG:z.aI=true)
  {ie:TypeInfo} (f2:ie.size=esz) (f3:ie.bytes=eb) (f6:eJ ie=some z)
  (h0:Rel R w (.list (.aH id j) esz es) cx) (hA:∀ zc:Value,ie.zero=some zc→M7 E.P w t u o.type elem ie zc cy (y :: ys).length us)
  (y0:eM esz (y :: ys)) (y1:aA R w (ar (y :: ys)) us) (y2:∀ v∈us,v.oneCell'=true) (y3:us.length=(y :: ys).length * esz)
  {fs:List Nat} (fc:nth s.G id=some (.aH fs esz elem)) (tE:JC fs j es.length=true) (hb:(es.length+(y :: ys).length) * eb≤140737488355328) :
  bn E R w β s a o ((s.aZ (au s.G id (.aH (EJ fs j (es.length+(y :: ys).length)) esz elem))).put o.dst (.v (.list (.aH id j) esz (es++(y :: ys))))):=by
 unfold JC at tE
 rw [Bool.or_eq_true,decide_eq_true_eq,Bool.and_eq_true] at tE
 rcases tE with tE | ⟨hj,hl⟩
 ·have bW:Nat.beq j fs.length=false:=by
   cases hb:Nat.beq j fs.length with
   | false=>rfl
   | true=>
    have:=Nat.eq_of_beq_eq_true hb
    have:=aQ tE
    omega
  unfold EJ
  rw [bW]
  exact kK h dX wT hz kG f2 f3 f6 h0 hA y0 y1 y2 y3 fc tE hb
 ·have uB:EJ fs j (es.length+(y :: ys).length)=fs++[es.length+(y :: ys).length]:=by
   unfold EJ
   rw [hj]
   rfl
  rw [uB]
  have hj:=Nat.eq_of_beq_eq_true hj
  have hl:=Nat.eq_of_beq_eq_true hl
  subst hj
  have bM:=aQ fc
  rw [← h.g.len] at bM
  obtain ⟨ro,aR⟩:∃ ro,nth R.obj id=some ro:=⟨R.obj[id],by rw [aE]; exact List.getElem?_eq_getElem bM⟩
  obtain ⟨ts,rfl,z1,z2,z3⟩:=h.zf fc (nfs:=[0]) (nts:=[.aN]) rfl (fun j f t h1 h2=>by
   cases j with
   | zero=>simp only [nth] at h1 h2; cases h1; cases h2; exact rfl
   | succ j=>simp [nth] at h1) (fun j f b c hj=>by
   cases j with
   | zero=>simp only [nth] at hj; cases hj
   | succ j=>simp [nth] at hj) aR
  have key:=kK z2 dX wT hz kG f2 f3 f6 (h0.mono z3.ext) hA y0 (y1.mono z3.ext) y2 y3 (fs:=fs++[0]) (aj fc) (by rw [hl]; exact dp _ _) hb
  have e1:au (fs++[0]) fs.length (es.length+(y :: ys).length)=fs++[es.length+(y :: ys).length]:=by
   rw [dy,List.set_append_right _ _ (Nat.le_refl _),Nat.sub_self]
   rfl
  have e2:∀ x y:GO,au (au s.G id x) id y=au s.G id y:=fun x y=>by rw [dy,dy,dy,List.set_set]
  rw [e1] at key
  refine bn.step rfl z3 ?_
  have e3:((s.aZ (au s.G id (.aH (fs++[0]) esz elem))).aZ (au (s.aZ (au s.G id (.aH (fs++[0]) esz elem))).G id (.aH (fs++[es.length+(y :: ys).length]) esz elem)))=s.aZ (au s.G id (.aH (fs++[es.length+(y :: ys).length]) esz elem)):=by
   simp only [St.aZ,e2]
  rw [e3] at key
  exact key
theorem gJ (h:aL E R w β s a) {t u:TypeId} {x:AV} {ys:List AV} {cx cy:Value} {us:List Value}
  (dX:∀ {c:Value} {w':World},(Builtin.append_ #[t,u] o.type #[cx,cy]).run E.P w=.ok c w'→(execOp a.eval o).run E.P w=.ok (.value c) w')
  {i:TI} {elem esz eb:Nat} {ag:Bool} {z:AV} (hk:i.k=.sl elem esz ag eb (some z)) (wT:1≤eb) (hz:z.cells.length=esz) (kG:z.aI=true)
  {ie:TypeInfo} (f1:E.P.info? elem=some ie) (f2:ie.size=esz) (f3:ie.bytes=eb) (f6:eJ ie=some z)
  (h0:Rel R w x cx) (hA:∀ zc:Value,ie.zero=some zc→M7 E.P w t u o.type elem ie zc cy ys.length us)
  (y0:eM esz ys) (y1:aA R w (ar ys) us) (y2:∀ v∈us,v.oneCell'=true) (y3:us.length=ys.length * esz)
  {v:AV} {G':List GO} (ha:dx s.G elem esz eb x ys=some (true,v,G')) :
  bn E R w β s a o ((s.aZ G').put o.dst (.v v)):=by
 obtain ⟨zc,kz,Af⟩:=cw f6
 have Uq:=hA
 have hA:=hA zc kz
 obtain ⟨d1,d2⟩:=Rel.cells (Af R w) kG
 have nS:zc.cells.size=esz:=by rw [← hz,d1.length]; simp
 unfold dx at ha
 split at ha
 ·-- nothing is appended
  rename_i k sz es
  have QX:us=[]:=List.eq_nil_of_length_eq_zero (by simpa using y3)
  have hG:G'=s.G∧Rel R w v cx:=by
   split at ha
   ·injection ha with ha; injection ha with _ ha; injection ha with p q
    subst p; subst q
    exact ⟨rfl,h0⟩
   ·injection ha with ha; injection ha with _ ha; injection ha with p q
    subst p; subst q
    exact ⟨rfl,h0⟩
  obtain ⟨rfl,X9⟩:=hG
  refine an (s:=s) h (c:=cx) (dX ?_) X9
  cases h0 with
  | gF=>exact hA.zero rfl _ _ _ (Nat.le_refl 0)
  | gl=>exact hA.zero rfl _ _ _ (Nat.le_refl 0)
  | ki=>exact hA.zero rfl _ _ _ (Nat.le_refl 0)
  | jl=>exact hA.zero rfl _ _ _ (Nat.le_refl 0)
  | jO=>exact hA.zero rfl _ _ _ (Nat.le_refl 0)
  | list hr hlen dW _=>exact hA.zero rfl _ _ _ dW
 ·-- something is appended
  rename_i k sz es y ys hA
  have mc:0 < (y :: ys).length:=by simp
  -- what is shown where a new block has been made
  have grown:∀ {n old:Nat} {xs:List Value} {es':List AV},(es'.length=n)→eM esz es'→aA R w (ar es') xs→(∀ v∈xs,v.oneCell'=true)→xs.length=n * esz →
    (n+(y :: ys).length) * eb≤140737488355328→n+(y :: ys).length≤maxLen→∀ (R':af) (G2:List GO) (id:Nat),
    aL E R' (w.drew.alloc (.cells (xs.toArray++us.toArray++Builtin.zeroCells zc.cells (grownCap w (n+(y :: ys).length) old elem - (n+(y :: ys).length))) elem)) β (s.aZ G2) a →
    Step R w β s.boxes R' (w.drew.alloc (.cells (xs.toArray++us.toArray++Builtin.zeroCells zc.cells (grownCap w (n+(y :: ys).length) old elem - (n+(y :: ys).length))) elem)) β s.boxes →
    (∀ j,j < (n+(y :: ys).length) * esz→R'.I w.heap.size j)→nth R'.obj id=some (.tok (n+(y :: ys).length) w.heap.size (grownCap w (n+(y :: ys).length) old elem) 0) →
    (Builtin.append_ #[t,u] o.type #[cx,cy]).run E.P w=.ok (.slice (some ⟨w.heap.size,0,none⟩) (n+(y :: ys).length) (grownCap w (n+(y :: ys).length) old elem)) (w.drew.alloc (.cells (xs.toArray++us.toArray++Builtin.zeroCells zc.cells (grownCap w (n+(y :: ys).length) old elem - (n+(y :: ys).length))) elem)) →
    bn E R w β s a o ((s.aZ G2).put o.dst (.v (.list (.own id) esz (es'++(y :: ys))))):=by
   intro n old xs es' yR Na M8 rb uz _ _ R' G2 id bh D4 hI hid aW
   refine ⟨_,_,_,R',β,dX aW,.inl rfl,bh.put o.dst ?_,by rw [aO]; exact D4⟩
   have e:=D4.ext
   refine Rel.list (uy (vs:=xs++us) (fS Na y0) (by rw [bQ]; exact (M8.mono e).append (y1.mono e)) (eR rb y2) (fun j v hj=>?_) (fun j hj=>hI j (by rw [List.length_append,uz,y3,← Nat.add_mul] at hj; exact hj))) (by simp [yR]) (grownCap_ge w _ _ _) ⟨_,hid,Nat.le_refl _,fun _=>⟨rfl,.inl rfl,rfl⟩⟩
   have ly:(w.drew.alloc (.cells (xs.toArray++us.toArray++Builtin.zeroCells zc.cells (grownCap w (n+(y :: ys).length) old elem - (n+(y :: ys).length))) elem)).heap[w.heap.size]?=some (.cells (xs.toArray++us.toArray++Builtin.zeroCells zc.cells (grownCap w (n+(y :: ys).length) old elem - (n+(y :: ys).length))) elem (0,0)):=heap_alloc_new w.drew _
   rw [cell_of_row _ _ j _ _ _ ly]
   have bM:=(List.getElem?_eq_some_iff.1 hj).1
   rw [← Array.getElem?_toList]
   simp only [Array.toList_append,List.append_assoc]
   rw [← List.append_assoc,List.getElem?_append_left bM]
   exact hj
  have GS:∀ {n old:Nat} {xs:List Value},xs.length=n * esz→n+(y :: ys).length≤maxLen→(xs.toArray++us.toArray++Builtin.zeroCells zc.cells (grownCap w (n+(y :: ys).length) old elem - (n+(y :: ys).length))).size=grownCap w (n+(y :: ys).length) old elem * esz:=by
   intro n old xs uz _
   have qS:=grownCap_ge w (n+(y :: ys).length) old elem
   simp only [Array.size_append,List.size_toArray,size_zeroCells,nS,uz,y3,← Nat.add_mul]
   congr 1
   omega
  have fresh:∀ {n old:Nat} {xs:List Value} {es':List AV},(es'.length=n)→eM esz es'→aA R w (ar es') xs→(∀ v∈xs,v.oneCell'=true)→xs.length=n * esz →
    (n+(y :: ys).length) * eb≤140737488355328→n+(y :: ys).length≤maxLen →
    (Builtin.append_ #[t,u] o.type #[cx,cy]).run E.P w=.ok (.slice (some ⟨w.heap.size,0,none⟩) (n+(y :: ys).length) (grownCap w (n+(y :: ys).length) old elem)) (w.drew.alloc (.cells (xs.toArray++us.toArray++Builtin.zeroCells zc.cells (grownCap w (n+(y :: ys).length) old elem - (n+(y :: ys).length))) elem)) →
    bn E R w β s a o ((s.aZ (s.G++[.tok (n+(y :: ys).length) esz elem])).put o.dst (.v (.list (.own s.G.length) esz (es'++(y :: ys))))):=by
   intro n old xs es' yR Na M8 rb uz hb hm aW
   obtain ⟨r1,r2⟩:=h.MZ (cur:=xs.toArray++us.toArray++Builtin.zeroCells zc.cells (grownCap w (n+(y :: ys).length) old elem - (n+(y :: ys).length))) (elem:=elem) (grownCap_ge w (n+(y :: ys).length) old elem) (grownCap_le_maxLen w _ old elem hm) (GS uz hm)
   exact grown yR Na M8 rb uz hb hm _ _ _ r1 r2 (fun j hj=>.inr ⟨rfl,hj⟩) (by rw [← h.g.len]; exact dp _ _) aW
  have Nb:∀ {n:Nat},(n+(y :: ys).length) * eb≤140737488355328→n+(y :: ys).length≤140737488355328:=fun {n} hb=>Nat.le_trans (Nat.le_mul_of_pos_right _ wT) hb
  split at ha
  ·-- nil
   injection ha with ha; injection ha with hc ha; injection ha with p q
   subst p; subst q
   have hb:=of_decide_eq_true hc
   cases h0 with
   | list _ _ _ Cd=>exact Cd.elim
   | gF=>
    simp only [List.length_nil] at hb
    have hm:=Nb hb
    refine fresh (n:=0) (old:=0) (xs:=[]) (es':=[]) rfl (fun e he=>by simp at he) .nil (by simp) (by simp) hb (by unfold maxLen; omega) ?_
    have aW:=hA.nil mc (by omega) (by rw [f3]; rw [Nat.zero_add] at hb; omega)
    simpa using aW
  ·-- as long as its capacity
   split at ha
   ·rename_i dl
    have dl:=Nat.eq_of_beq_eq_true dl
    subst dl
    injection ha with ha; injection ha with hc ha; injection ha with p q
    subst p; subst q
    have hb:=of_decide_eq_true hc
    have hm:=Nb hb
    obtain ⟨x0,xs,x1,x2,x3,x4⟩:=eQ (esz:=sz) h0 (.inr rfl)
    rcases x4 with ⟨rfl,rfl,ad,rfl,hd⟩ | ⟨b,o',cap,rfl,Q3,xk,sj,_⟩
    ·rcases hd with rfl | hd
     ·cases h0
     ·cases hd
    ·have dW:cap=es.length:=xk
     subst dW
     refine fresh (n:=es.length) (old:=es.length) (xs:=xs) (es':=es) rfl x0 x1 x2 x3 hb (by unfold maxLen; omega) ?_
     exact hA.grow mc ⟨b,o',none⟩ es.length es.length xs (by rw [x3,f2]) sj (by omega) (by omega) (growslice_fits (by omega) (by rw [f3]; exact hb))
   ·cases ha
  ·-- of a token
   rename_i id
   split at ha
   ·rename_i f aT e' fc
    split at ha
    ·rename_i bF
     simp only [Bool.and_eq_true] at bF
     obtain ⟨⟨q1,q2⟩,q3⟩:=bF
     have q1:=Nat.eq_of_beq_eq_true q1
     have q2:=Nat.eq_of_beq_eq_true q2
     have q3:=Nat.eq_of_beq_eq_true q3
     subst q1; subst q2; subst q3
     injection ha with ha; injection ha with hc ha; injection ha with p q
     subst p; subst q
     simp only [Bool.and_eq_true] at hc
     have tE:=of_decide_eq_true hc.1
     have hb:=of_decide_eq_true hc.2
     subst tE
     have hm:=Nb hb
     obtain ⟨x0,xs,x1,x2,x3,x4⟩:=eQ (esz:=sz) h0 (.inr rfl)
     rcases x4 with ⟨rfl,rfl,ad,rfl,hd⟩ | ⟨b,o',cap,rfl,Q3,xk,sj,xE⟩
     ·obtain rfl:ad=none:=by
       rcases hd with hd | hd
       ·exact hd
       ·cases hd
      cases h0 with
      | @jl _ _ ro aR hon=>
      have bh:=h.g.obj id _ _ fc aR
      cases ro with
      | none=>exact bh.elim
      | bi _=>exact bh.elim
      | tok f' g c k0=>
       obtain ⟨rfl,_⟩:=bh
       simp [kh] at hon
      | aH _=>exact bh.elim
      | aN=>
       simp only [List.length_nil] at hb
       have aW:=hA.nil mc (by omega) (by rw [f3]; rw [Nat.zero_add] at hb; omega)
       have dl:=GS (n:=0) (old:=0) (xs:=[]) (by simp) (by unfold maxLen; omega)
       obtain ⟨r1,r2⟩:=h.GH (cur:=[].toArray++us.toArray++Builtin.zeroCells zc.cells (grownCap w (0+(y :: ys).length) 0 e' - (0+(y :: ys).length))) (elem:=e') (n:=0+(y :: ys).length) (cap:=grownCap w (0+(y :: ys).length) 0 e') fc aR (fun b c=>by simp only [bI]; omega) (grownCap_ge w _ _ _) (grownCap_le_maxLen w _ _ _ (by unfold maxLen; omega)) dl
       exact grown (n:=0) (es':=[]) rfl (fun e he=>by simp at he) .nil (by simp) (by simp) hb (by unfold maxLen; omega) _ _ _ r1 r2 (fun j hj=>.inr ⟨rfl,hj⟩) (aj aR) (by simpa using aW)
     ·obtain ⟨ro,aR,sh⟩:=xk
      have bh:=h.g.obj id _ _ fc aR
      cases ro with
      | none=>exact bh.elim
      | aN=>exact sh.elim
      | bi _=>exact bh.elim
      | aH _=>exact bh.elim
      | tok f' g c k0=>
       obtain ⟨rfl,cur,gI,k1,k3,k4,k5⟩:=bh
       obtain ⟨rfl,cM,rfl⟩:=sh.2 rfl
       by_cases cH:es.length+(y :: ys).length≤cap
       ·have cM:=cM.resolve_right (by rw [List.length_cons] at cH; omega)
        subst cM
        have hle:(es.length+(y :: ys).length) * sz≤cap * sz:=Nat.mul_le_mul_right _ cH
        have aW:=hA.room mc b o' es.length cap cur gI cH (by rw [f2,Nat.add_assoc,y3,← Nat.add_mul,k4]; omega)
        rw [f2] at aW
        obtain ⟨r0,r1,r2⟩:=h.JO (news:=us) (n:=es.length+(y :: ys).length) fc aR (by omega) cH gI k4 k3 (by rw [y3,← Nat.add_mul])
        refine ⟨_,_,_,_,β,dX aW,.inl rfl,r1.put o.dst ?_,by rw [aO]; exact r2⟩
        have ly:=setRow_heap w b cur (cur.toList.take (o'+es.length * sz)++us++cur.toList.drop (o'+es.length * sz+us.length)).toArray e' (0,0) gI
        have Jk:xs.length=es.length * sz:=x3
        have gd:cur.toList.length=o'+cap * sz:=by rw [show cur.toList.length=cur.size from Array.length_toList,k4]
        have Av:es.length * sz≤cap * sz:=Nat.mul_le_mul_right _ (by omega)
        have fw:∀ j v,(xs++us)[j]?=some v→(w.setRow b (cur.toList.take (o'+es.length * sz)++us++cur.toList.drop (o'+es.length * sz+us.length)).toArray).cell? ⟨b,o'+j,none⟩=some v:=fun j v hj=>by
         rw [cell_of_row _ _ (o'+j) _ _ _ ly]
         simp only [List.getElem?_toArray]
         by_cases Ya:j < xs.length
         ·rw [List.getElem?_append_left Ya] at hj
          have sW:=sj j v hj
          rw [bO,cell_of_row w b (o'+j) cur e' (0,0) gI] at sW
          rw [List.append_assoc,List.getElem?_append_left (by rw [List.length_take]; omega),List.getElem?_take,if_pos (by omega),Array.getElem?_toList]
          exact sW
         ·have bM:=(List.getElem?_eq_some_iff.1 hj).1
          rw [List.length_append] at bM
          rw [List.getElem?_append_right (by omega)] at hj
          have ht:(cur.toList.take (o'+es.length * sz)).length=o'+es.length * sz:=by rw [List.length_take]; omega
          rw [List.append_assoc,List.getElem?_append_right (by rw [ht]; omega),ht,List.getElem?_append_left (by omega),show o'+j - (o'+es.length * sz)=j - xs.length by omega]
          exact hj
        refine Rel.list (jf (fS x0 y0) (dN.make (vs:=xs++us) (by rw [bQ]; exact (x1.mono r0).append (y1.mono r0)) (eR x2 y2) fw (fun j hj=>.inr ⟨rfl,?_⟩))) (by simp) cH ⟨_,aj aR,Nat.le_refl _,fun _=>⟨rfl,.inl rfl,rfl⟩⟩
        rw [bQ,List.length_append,x1.length,y1.length,Jk,y3,← Nat.add_mul] at hj
        omega
       ·have aW:=hA.grow mc ⟨b,o',none⟩ es.length cap xs (by rw [x3,f2]) sj (by omega) (by omega) (growslice_fits (by omega) (by rw [f3]; exact hb))
        obtain ⟨r1,r2⟩:=h.GH (cur:=xs.toArray++us.toArray++Builtin.zeroCells zc.cells (grownCap w (es.length+(y :: ys).length) cap e' - (es.length+(y :: ys).length))) (elem:=e') (n:=es.length+(y :: ys).length) (cap:=grownCap w (es.length+(y :: ys).length) cap e') fc aR (fun b c=>⟨by omega,fun e=>by omega⟩) (grownCap_ge w _ _ _) (grownCap_le_maxLen w _ _ _ (by unfold maxLen; omega)) (GS x3 (by unfold maxLen; omega))
        exact grown rfl x0 x1 x2 x3 hb (by unfold maxLen; omega) _ _ _ r1 r2 (fun j hj=>.inr ⟨rfl,hj⟩) (aj aR) aW
    ·cases ha
   ·cases ha
  ·-- of a member of a family
   rename_i id j
   split at ha
   ·rename_i fs aT e' fc
    split at ha
    ·rename_i bF
     simp only [Bool.and_eq_true] at bF
     obtain ⟨⟨q1,q2⟩,q3⟩:=bF
     have q1:=Nat.eq_of_beq_eq_true q1
     have q2:=Nat.eq_of_beq_eq_true q2
     have q3:=Nat.eq_of_beq_eq_true q3
     subst q1; subst q2; subst q3
     injection ha with ha; injection ha with hc ha; injection ha with p q
     subst p; subst q
     simp only [Bool.and_eq_true,decide_eq_true_eq] at hc
     exact te h dX wT hz kG f2 f3 f6 h0 (fun Q4 GU=>Uq Q4 GU) y0 y1 y2 y3 fc hc.1 hc.2
    ·cases ha
   ·cases ha
  ·cases ha
 ·-- a slice that grows, and nothing
  injection ha with ha; injection ha with _ ha; injection ha with p q
  subst p; subst q
  refine an (s:=s) h (c:=cx) (dX ?_) h0
  cases h0 with
  | gB=>exact hA.zero rfl _ _ _ (Nat.le_refl 0)
  | cL _ _ dW=>exact hA.zero rfl _ _ _ dW
 ·-- a slice that grows
  rename_i id f' off sz len y ys hA
  split at ha
  ·rename_i es aT e' fc
   split at ha
   ·rename_i bF
    simp only [Bool.and_eq_true] at bF
    obtain ⟨⟨q1,q2⟩,q3⟩:=bF
    have q1:=Nat.eq_of_beq_eq_true q1
    have q2:=Nat.eq_of_beq_eq_true q2
    have q3:=Nat.eq_of_beq_eq_true q3
    subst q1; subst q2; subst q3
    injection ha with ha; injection ha with hc ha; injection ha with p q
    subst p; subst q
    simp only [Bool.and_eq_true,decide_eq_true_eq] at hc
    exact iF h dX wT hz kG f2 f3 f6 h0 (fun Q4 GU=>Uq Q4 GU) y0.g y1 y2 y3 fc hc.1.1.1 hc.1.1.2 hc.1.2 hc.2
   ·cases ha
  ·cases ha
 ·-- a row, and nothing
  injection ha with ha; injection ha with _ ha; injection ha with p q
  subst p; subst q
  refine an (s:=s) h (c:=cx) (dX ?_) h0
  cases h0 with
  | py=>exact hA.zero rfl _ _ _ (Nat.le_refl 0)
  | fx _ _ dW=>exact hA.zero rfl _ _ _ dW
 ·-- a row
  rename_i id j' sz len y ys hA
  split at ha
  ·rename_i rows aT e' fc
   split at ha
   ·rename_i bF
    simp only [Bool.and_eq_true] at bF
    obtain ⟨⟨q1,q2⟩,q3⟩:=bF
    have q1:=Nat.eq_of_beq_eq_true q1
    have q2:=Nat.eq_of_beq_eq_true q2
    have q3:=Nat.eq_of_beq_eq_true q3
    subst q1; subst q2; subst q3
    injection ha with ha; injection ha with hc ha; injection ha with p q
    subst p; subst q
    simp only [Bool.and_eq_true,decide_eq_true_eq] at hc
    exact td h dX wT hz kG f2 f3 f6 h0 (fun Q4 GU=>Uq Q4 GU) y0 y1 y2 y3 fc hc.1.1 hc.1.2 hc.2
   ·cases ha
  ·cases ha
 ·cases ha
theorem AB (h:aL E R w β s a) {args:Array Operand} {t:TypeId} (ho:o.op=.call { callee:=.builtin .append,args:=args,argTypes:=#[t,t] }) {x:AV} {k2:LK} {pd:Nat} {ys:List AV}
  (hl:jU E s.ab args.toList=some [x,.list k2 pd ys]) {i:TI} (hi:E.ti t=some i) {elem esz eb:Nat} {ag:Bool} {z:AV} (hk:i.k=.sl elem esz ag eb (some z)) (wU:ys=[]∨pd=esz) (Yb:1≤esz) (wT:1≤eb) (hz:z.cells.length=esz) (kG:z.aI=true)
  {v:AV} {G':List GO} (ha:dx s.G elem esz eb x ys=some (true,v,G')) :
  bn E R w β s a o ((s.aZ G').put o.dst (.v v)):=by
 have hr:=er h hl
 generalize hv:args.toList.map a.eval=vs at hr
 have hx:=cN (E:=E) (w:=w) ho vs hv
 cases hr with
 | @cons _ cx _ _ h0 h1=>
 cases h1 with
 | @cons _ cy _ _ h1 h2=>
 cases h2
 obtain ⟨eP,u,e1,e2,e3,e4,e5,e6⟩:=bH E hi
 have Ag:=hk
 rw [hk] at e5
 obtain ⟨ie,ue,rfl,f1,f2,f3,f4,f5,f6⟩:=cp e5
 have lV:(⟨[cx,cy]⟩:Array Value)=#[cx,cy]:=rfl
 obtain ⟨y0,us,y1,y2,y3,y4⟩:=eQ (esz:=esz) h1 wU
 refine gJ h (cx:=cx) (cy:=cy) (t:=t) (u:=t) (fun hh=>?_) Ag wT hz kG f1 f2 f3 f6 h0 (fun zc kz=>?_) y0 y1 y2 y3 ha
 ·rw [hx]
  simp only [builtin,lV,Sem.run_bind,hh,Result.andThen_ok,Sem.run_pure]
 ·rcases y4 with ⟨rfl,rfl,ad,rfl,_⟩ | ⟨Ql,oy,uC,rfl,Q5,_,ju,yE⟩
  ·refine ⟨fun _ base len cap Ae=>?_,fun hh=>absurd hh (by simp),fun hh=>absurd hh (by simp),fun hh=>absurd hh (by simp)⟩
   cases ad <;> simp [Builtin.append_,run_underlying e2,run_sizeOf w f1,Builtin.lenOf,Builtin.firstCells,Ae,storeCells,loadCells,loadCellsFrom] <;>
    cases base <;> simp [storeCells]
  ·refine ⟨fun hn base len cap Ae=>?_,fun hh zg zh=>run_append_nil (P:=E.P) w t o.type elem ie zc e2 f1 kz _ _ uC us (by rw [y3,f2]) ju hh zg zh,fun _ b sLen dQ rF uD E2 hg zg zh=>run_append_grow (P:=E.P) w t o.type elem ie zc e2 f1 kz b sLen dQ rF uD E2 _ _ uC us (by rw [y3,f2]) ju hg zg zh,fun _ g k sLen dQ cur hg cH mb=>fj (P:=E.P) w t o.type elem ie e2 f1 g k sLen dQ cur hg _ _ uC us (by rw [y3,f2]) ju y2 cH mb⟩
   rw [hn]
   simp [Builtin.append_,run_underlying e2,run_sizeOf w f1,Builtin.lenOf,Builtin.firstCells,Ae,storeCells,loadCells,loadCellsFrom]
   cases base <;> simp [storeCells]
theorem sk {sz:Nat} {es:List AV} (h:cW sz es) (hc:aJ es=true):eM sz es:=by
 induction es with
 | nil=>intro e he; cases he
 | cons x es ih=>
  have lS:(x.closed&&aJ es)=true:=hc
  rw [Bool.and_eq_true] at lS
  intro e he
  rcases List.mem_cons.1 he with rfl | he
  ·exact ⟨(h e List.mem_cons_self).1,(h e List.mem_cons_self).2,lS.1⟩
  ·exact ih (fun e he=>h e (List.mem_cons_of_mem _ he)) lS.2 e he
theorem E3 (h:aL E R w β s a) {id f sz len:Nat} {es:List AV} {el:TypeId} {c:Value} (hid:nth s.G id=some (.cP es sz el)) (hf:f=es.length) (hl:len=es.length) (gd:aJ es=true) (hc:Rel R w (.cL id f 0 sz len) c) :
  eM sz es∧∃ vs,aA R w (ar es) vs∧(∀ v∈vs,v.oneCell'=true)∧vs.length=es.length * sz ∧
   ((es=[]∧vs=[]∧∃ ad,c=.slice ad 0 0)∨∃ b o' cap,c=.slice (some ⟨b,o',none⟩) es.length cap∧es.length≤cap∧(∀ j v,vs[j]?=some v→w.cell? ((⟨b,o',none⟩:Addr).add j)=some v)):=by
 cases hc with
 | gB h1 h2=>
  have he:es=[]:=List.eq_nil_of_length_eq_zero hl.symm
  subst he
  exact ⟨(fun e he=>by cases he),[],.nil,by simp,by simp,.inl ⟨rfl,rfl,_,rfl⟩⟩
 | @cL _ _ _ _ _ cap b1 o1 ro h1 h2 h3=>
  have hn:ro≠.aN:=fun e=>by subst e; exact h2.elim
  obtain ⟨b,c',cur,vs,rfl,g0,g2,g3,g4,g5,g6,g7,g8,g9⟩:=lz h.g hid h1 hn
  have g1:eM sz es:=sk g0 gd
  obtain ⟨rfl,k2,k3⟩:=h2.2 hf
  refine ⟨g1,vs,g7,g8,by rw [← g7.length,cq g1],.inr ⟨_,_,_,by rw [hl],by omega,fun j v hj=>?_⟩⟩
  rw [bO]
  have L5:j < vs.length:=(List.getElem?_eq_some_iff.1 hj).1
  have ho:o1=0:=by
   rcases k3 with k3 | k3
   ·rw [k3,Nat.zero_mul]
   ·have:es.length=0:=by omega
    rw [← g7.length,cq g1,this,Nat.zero_mul] at L5
    omega
  subst ho
  rw [Nat.zero_add,cell_of_row w b1 j cur el (0,0) g2]
  rw [← g9,List.getElem?_take] at hj
  split at hj
  ·rw [← Array.getElem?_toList]; exact hj
  ·cases hj
theorem tf (h:aL E R w β s a) {args:Array Operand} {t:TypeId} (ho:o.op=.call { callee:=.builtin .append,args:=args,argTypes:=#[t,t] }) {x:AV} {id f sz len:Nat} {ys:List AV} {el:TypeId}
  (hl:jU E s.ab args.toList=some [x,.cL id f 0 sz len]) (hid:nth s.G id=some (.cP ys sz el)) (hf:f=ys.length) (hlen:len=ys.length) (gd:aJ ys=true)
  {i:TI} (hi:E.ti t=some i) {elem esz eb:Nat} {ag:Bool} {z:AV} (hk:i.k=.sl elem esz ag eb (some z)) (wU:sz=esz) (wT:1≤eb) (hz:z.cells.length=esz) (kG:z.aI=true)
  {v:AV} {G':List GO} (ha:dx s.G elem esz eb x ys=some (true,v,G')) :
  bn E R w β s a o ((s.aZ G').put o.dst (.v v)):=by
 have hr:=er h hl
 generalize hv:args.toList.map a.eval=vs at hr
 have hx:=cN (E:=E) (w:=w) ho vs hv
 cases hr with
 | @cons _ cx _ _ h0 h1=>
 cases h1 with
 | @cons _ cy _ _ h1 h2=>
 cases h2
 obtain ⟨eP,u,e1,e2,e3,e4,e5,e6⟩:=bH E hi
 have Ag:=hk
 rw [hk] at e5
 obtain ⟨ie,ue,rfl,f1,f2,f3,f4,f5,f6⟩:=cp e5
 have lV:(⟨[cx,cy]⟩:Array Value)=#[cx,cy]:=rfl
 subst wU
 obtain ⟨y0,us,y1,y2,y3,y4⟩:=E3 h hid hf hlen gd h1
 refine gJ h (cx:=cx) (cy:=cy) (t:=t) (u:=t) (fun hh=>?_) Ag wT hz kG f1 f2 f3 f6 h0 (fun zc kz=>?_) y0 y1 y2 y3 ha
 ·rw [hx]
  simp only [builtin,lV,Sem.run_bind,hh,Result.andThen_ok,Sem.run_pure]
 ·rcases y4 with ⟨rfl,rfl,ad,rfl⟩ | ⟨Ql,oy,uC,rfl,Q5,ju⟩
  ·refine ⟨fun _ base len cap Ae=>?_,fun hh=>absurd hh (by simp),fun hh=>absurd hh (by simp),fun hh=>absurd hh (by simp)⟩
   cases ad <;> simp [Builtin.append_,run_underlying e2,run_sizeOf w f1,Builtin.lenOf,Builtin.firstCells,Ae,storeCells,loadCells,loadCellsFrom] <;>
    cases base <;> simp [storeCells]
  ·refine ⟨fun hn base len cap Ae=>?_,fun hh zg zh=>run_append_nil (P:=E.P) w t o.type elem ie zc e2 f1 kz _ _ uC us (by rw [y3,f2]) ju hh zg zh,fun _ b sLen dQ rF uD E2 hg zg zh=>run_append_grow (P:=E.P) w t o.type elem ie zc e2 f1 kz b sLen dQ rF uD E2 _ _ uC us (by rw [y3,f2]) ju hg zg zh,fun _ g k sLen dQ cur hg cH mb=>fj (P:=E.P) w t o.type elem ie e2 f1 g k sLen dQ cur hg _ _ uC us (by rw [y3,f2]) ju y2 cH mb⟩
   rw [hn]
   simp [Builtin.append_,run_underlying e2,run_sizeOf w f1,Builtin.lenOf,Builtin.firstCells,Ae,storeCells,loadCells,loadCellsFrom]
   cases base <;> simp [storeCells]
theorem uE:∀ (bs:List UInt8),aA R w (ar (bs.map pt)) (Lib.strCells ⟨⟨bs⟩⟩)
 | []=>.nil
 | b :: bs=>.cons (Rel.int .u8 b.toNat) (uE bs)
theorem tg (h:aL E R w β s a) {args:Array Operand} {t u:TypeId} (ho:o.op=.call { callee:=.builtin .append,args:=args,argTypes:=#[t,u] }) {x:AV} {bs:List UInt8}
  (hl:jU E s.ab args.toList=some [x,.str bs]) {i j:TI} (hi:E.ti t=some i) (hj:E.ti u=some j) {elem eb:Nat} {ag:Bool} {z:AV} (hk:i.k=.sl elem 1 ag eb (some z)) (Qn:j.k=.str) (wT:1≤eb) (hz:z.cells.length=1) (kG:z.aI=true)
  {v:AV} {G':List GO} (ha:dx s.G elem 1 eb x (bs.map pt)=some (true,v,G')) :
  bn E R w β s a o ((s.aZ G').put o.dst (.v v)):=by
 have hr:=er h hl
 generalize hv:args.toList.map a.eval=vs at hr
 have hx:=cN (E:=E) (w:=w) ho vs hv
 cases hr with
 | @cons _ cx _ _ h0 h1=>
 cases h1 with
 | @cons _ cy _ _ h1 h2=>
 cases h2
 obtain ⟨eP,ud,e1,e2,e3,e4,e5,e6⟩:=bH E hi
 obtain ⟨Q6,Yc,g1,g2,g3,g4,g5,g6⟩:=bH E hj
 rw [Qn] at g5
 have:=jo g5
 subst this
 have Ag:=hk
 rw [hk] at e5
 obtain ⟨ie,ue,rfl,f1,f2,f3,f4,f5,f6⟩:=cp e5
 cases h1
 have dl:(⟨⟨bs⟩⟩:ByteArray).size=bs.length:=rfl
 have hlen:(bs.map pt).length=bs.length:=List.length_map _
 have lV:(⟨[cx,.string ⟨⟨bs⟩⟩]⟩:Array Value)=#[cx,.string ⟨⟨bs⟩⟩]:=rfl
 have gd:(Lib.strCells ⟨⟨bs⟩⟩).length=bs.length:=Lib.strCells_length _
 refine gJ h (cx:=cx) (cy:=.string ⟨⟨bs⟩⟩) (us:=Lib.strCells ⟨⟨bs⟩⟩) (t:=t) (u:=u) (fun hh=>?_) Ag wT hz kG f1 f2 f3 f6 h0 (fun zc kz=>?_) ?_ (uE bs) (Lib.strCells_oneCell _) (by rw [gd,hlen,Nat.mul_one]) ha
 ·rw [hx]
  simp only [builtin,lV,Sem.run_bind,hh,Result.andThen_ok,Sem.run_pure]
 ·rw [hlen]
  refine ⟨fun hn base len cap Ae=>?_,fun hh zg zh=>?_,fun _ b sLen dQ rF uD E2 hg zg zh=>Lib.run_append_grow_string (P:=E.P) w t u o.type elem ie zc e2 g2 f1 kz b sLen dQ rF uD E2 ⟨⟨bs⟩⟩ hg zg zh,fun _ g k sLen dQ cur hg cH mb=>?_⟩
  ·have hb:bs=[]:=List.eq_nil_of_length_eq_zero hn
   subst hb
   have Yd:(⟨⟨[]⟩⟩:ByteArray).size=0:=rfl
   simp [Yd,Builtin.append_,run_underlying e2,run_underlying g2,run_sizeOf w f1,Builtin.lenOf,Builtin.firstCells,Ae,storeCells]
   cases base <;> simp [storeCells]
  ·rw [run_append_nil_string (P:=E.P) w t u o.type elem ie zc e2 g2 f1 kz ⟨⟨bs⟩⟩ hh zg zh]
   simp [Lib.strCells,dl]
  ·have:=kI (P:=E.P) w t u o.type elem ie e2 g2 f1 f2 g k sLen dQ cur hg ⟨⟨bs⟩⟩ cH (by rw [f2,Nat.mul_one,gd] at mb; exact mb)
   rw [this,f2,Nat.mul_one,gd]
   rfl
 ·intro e he
  obtain ⟨b,_,rfl⟩:=List.mem_map.1 he
  exact ⟨rfl,rfl,rfl⟩
def af.uF (R:af) (id:Nat) (ro:RO):af:=⟨R.I,au R.obj id .none++[ro]⟩
theorem kL {R:af} {id i:Nat} {r0 ro r:RO} (hid:nth R.obj id=some r0) (h:nth (R.uF id ro).obj i=some r):(i=id∧r=.none)∨(i≠id∧nth R.obj i=some r)∨(i=R.obj.length∧r=ro):=by
 rcases ah h with h | ⟨h1,h2⟩
 ·rcases ap hid h with h | h
  ·exact .inl h
  ·exact .inr (.inl h)
 ·refine .inr (.inr ⟨?_,h2⟩)
  rw [h1,dy,List.length_set]
theorem E4 {id f b c k:Nat} (ro:RO) (hid:nth R.obj id=some (.tok f b c k)):Ext R w (R.uF id ro) w:=
 ⟨fun _ _ h=>h,fun _ _ _=>rfl,fun i r hr=>by
  by_cases e:id=i
  ·subst e
   rw [hid] at hr
   cases hr
   exact ⟨.none,bf (aj hid),trivial⟩
  ·exact ⟨r,bf (by rw [aB e]; exact hr),bI.refl r⟩,dI.refl w⟩
theorem GV (h:aL E R w β s a) {f:FuncId} {s':St} (hs:B5 E f s o=some (true,s')):bn E R w β s a o s':=by
 unfold B5 at hs
 split at hs
 ·rename_i t x lo d ho hd
  split at hs
  ·split at hs
   ·rename_i i id sz es k n oC hx uD
    split at hs
    ·rename_i elem esz ag lU z f0 aT Ye hk fc
     split at hs
     ·rename_i bF
      simp only [Bool.and_eq_true] at bF
      have q1:=Nat.eq_of_beq_eq_true bF.1
      have q2:=(Nat.eq_of_beq_eq_true bF.2).symm
      subst q1; subst q2
      injection hs with hs; injection hs with hc hs
      subst hs
      simp only [Bool.and_eq_true,decide_eq_true_eq] at hc
      obtain ⟨qT,bW,yR,EW⟩:=hc
      subst qT
      obtain ⟨p,rfl⟩:∃ p:Nat,n=(p:Int):=⟨n.toNat,by omega⟩
      rw [Int.toNat_natCast]
      have hp:p≤es.length:=by omega
      obtain ⟨eP,u,e1,e2,e3,e4,e5,e6⟩:=bH E oC
      rw [hk] at e5
      obtain ⟨ie,ue,rfl,f1,f2,f3,f4,f5,f6⟩:=cp e5
      have rx:=aF h x
      rw [hx] at rx
      have cF:Rel R w (.list (.own id) sz es) (a.eval x):=rx
      generalize dP:a.eval x=xv at cF
      cases cF with
      | jl _ _=>simp at bW
      | @list _ _ _ b o' len cap hr hlen dW Cd=>
       subst hlen
       obtain ⟨ro,aR,sh⟩:=Cd
       have bh:=h.g.obj id _ _ fc aR
       cases ro with
       | none=>exact bh.elim
       | aN=>exact sh.elim
       | bi _=>exact bh.elim
       | aH _=>exact bh.elim
       | tok f' g c k0=>
        obtain ⟨rfl,cur,gI,k1,k3,k4,k5⟩:=bh
        obtain ⟨rfl,cM,rfl⟩:=sh.2 rfl
        have cM:=cM.resolve_right (by omega)
        subst cM
        have hl:jN E s.ab (some lo)=some (some (.v (.int k (p:Int)))):=by simp [jN,uD]
        have hb:yM es.length (some (.v (.int k (p:Int)))) none=some (true,p,es.length):=by
         have d:decide ((0:Int)≤(p:Int)∧(p:Int)≤(es.length:Int))=true:=decide_eq_true (by omega)
         simp only [yM,tZ,d,Int.toNat_natCast,Bool.and_self]
        obtain ⟨r1,_,_⟩:=cZ (E:=E) true dW (pH h hl) (pH h (show jN E s.ab none=some none from rfl)) hb
        have aW:(execOp a.eval o).run E.P w=.ok (.value (.slice (if cap=p then some ⟨b,o',none⟩ else some ⟨b,o'+p * sz,none⟩) (es.length - p) (cap - p))) w:=by
         simp only [execOp,ho,Instr.sliceAt,Sem.run_bind,run_underlying e2,Result.andThen_ok,Instr.slice,dP,r1,run_sizeOf w f1,f2,Sem.run_pure,Option.map_some,Option.map_none,bO] at *
        have e:=E4 (R:=R) (w:=w) (.tok (es.length - p) b (cap - p) (o'+p * sz)) aR
        have hmul:(cap - p) * sz+p * sz=cap * sz:=by rw [← Nat.add_mul]; congr 1; omega
        have Wx:(es.length - p) * sz+p * sz=es.length * sz:=by rw [← Nat.add_mul]; congr 1; omega
        have live:∀ b',Live (R.uF id (.tok (es.length - p) b (cap - p) (o'+p * sz))) b'→Live R b':=fun b' hl=>by
         obtain ⟨i,r,h1,h2⟩:=hl
         rcases kL aR h1 with ⟨_,rfl⟩ | ⟨_,h1⟩ | ⟨_,rfl⟩
         ·exact h2.elim
         ·exact ⟨i,r,h1,h2⟩
         ·exact ⟨id,_,aR,h2⟩
        have hG:aL E (R.uF id (.tok (es.length - p) b (cap - p) (o'+p * sz))) w β (s.aZ (au s.G id .dead++[.tok (es.length - p) sz Ye])) a:=by
         refine ⟨⟨by simp [St.aZ,af.uF,dy,h.g.len],fun i gg r h1 h2=>?_,fun i j ri rj b' h1 h2 b1 b2=>?_,h.g.wf,fun g cs hg=>(h.g.cG g cs hg).mono e,h.g.lo⟩,h.b.bl e (fun _ _ _=>rfl) (fun _ _ _ _ hi=>hi) (fun _ _ _ hl=>live _ hl),h.t.mono e,h.n,h.d.mono e⟩
         ·simp only [St.aZ] at h1
          rcases kL aR h2 with ⟨rfl,rfl⟩ | ⟨Cs,h2⟩ | ⟨h3,rfl⟩
          ·rw [bf (aj fc)] at h1
           cases h1
           trivial
          ·rcases ah h1 with h1 | ⟨h3,_⟩
           ·rw [aB (Ne.symm Cs)] at h1
            exact (h.g.obj i gg r h1 h2).mono e (fun _ _=>rfl) (fun _ _ _ hi=>hi)
           ·have:=aQ h2
            rw [h3,dy,List.length_set,h.g.len] at this
            omega
          ·rcases ah h1 with h1 | ⟨_,rfl⟩
           ·have:=aQ h1
            rw [h3,dy,List.length_set,h.g.len] at this
            omega
           ·exact ⟨rfl,cur,gI,by omega,by omega,by omega,fun o2 ho2 hi=>k5 o2 (by omega) hi⟩
         ·rcases kL aR h1 with ⟨_,rfl⟩ | ⟨m1,h1⟩ | ⟨m1,rfl⟩
          ·exact b1.elim
          ·rcases kL aR h2 with ⟨_,rfl⟩ | ⟨m2,h2⟩ | ⟨m2,rfl⟩
           ·exact b2.elim
           ·exact h.g.inj i j ri rj b' h1 h2 b1 b2
           ·exact absurd (h.g.inj i id ri _ b' h1 aR b1 b2) m1
          ·rcases kL aR h2 with ⟨_,rfl⟩ | ⟨m2,h2⟩ | ⟨m2,rfl⟩
           ·exact b2.elim
           ·exact absurd (h.g.inj j id rj _ b' h2 aR b2 b1) m2
           ·omega
        have fF:Step R w β s.boxes (R.uF id (.tok (es.length - p) b (cap - p) (o'+p * sz))) w β s.boxes:=by
         refine ⟨e,rfl,rfl,rfl,Nat.le_refl _,fun _ _ _=>rfl,fun b' _ ho=>?_,fun _ _ h _ _=>h⟩
         rcases ho with ho | ho
         ·exact .inl (live b' ho)
         ·exact .inr ho
        have ly:nth (R.uF id (.tok (es.length - p) b (cap - p) (o'+p * sz))).obj s.G.length=some (.tok (es.length - p) b (cap - p) (o'+p * sz)):=by
         have:=dp (au R.obj id .none) (RO.tok (es.length - p) b (cap - p) (o'+p * sz))
         rw [dy,List.length_set,h.g.len,← dy] at this
         exact this
        refine ⟨_,_,w,_,β,aW,.inl rfl,?_,by rw [aO]; exact fF⟩
        rw [hd]
        refine hG.put (some d) (x:=.v (.list (.own s.G.length) sz (es.drop p))) ?_
        by_cases JM:cap=p
        ·rw [if_pos JM]
         have he:es.drop p=[]:=List.eq_nil_of_length_eq_zero (by rw [List.length_drop]; omega)
         exact Rel.list (by rw [he]; exact .nil) (by rw [List.length_drop]) (by omega) ⟨_,ly,Nat.le_refl _,fun _=>⟨rfl,.inr (by omega),rfl⟩⟩
        ·rw [if_neg JM]
         exact Rel.list ((rk p hr).mono e) (by rw [List.length_drop]) (by omega) ⟨_,ly,Nat.le_refl _,fun _=>⟨rfl,.inl rfl,rfl⟩⟩
     ·cases hs
    ·cases hs
   ·cases hs
  ·cases hs
 ·cases hs
end ops
end Go.Am
namespace Go.Am
open Go
section
variable {E:Env} {R R':af} {w w':World} {β:Nat→Nat} {s:St} {a:Act} {o:Oper}
theorem aL.Nc (h:aL E R w β s a) {id sz:Nat} {e:TypeId} {rows:List (List AV)} (hid:nth s.G id=some (.ga rows sz e)) (n:Nat) {ro:RO} (aR:nth R.obj id=some ro) :
  ∃ ts,ro=.aH ts∧ts.length=rows.length∧aL E (R.reset id (.aH (ts++List.replicate n .aN))) w β (s.aZ (au s.G id (.ga (rows++List.replicate n []) sz e))) a∧Step R w β s.boxes (R.reset id (.aH (ts++List.replicate n .aN))) w β s.boxes:=by
 have bh:=h.g.obj id _ _ hid aR
 cases ro with
 | none=>exact bh.elim
 | aN=>exact bh.elim
 | bi _=>exact bh.elim
 | tok _ _ _ _=>exact bh.elim
 | aH ts=>
 obtain ⟨q1,q2,q3⟩:=bh
 have my:∀ j f b c,nth (List.replicate n TR.aN) j≠some (.tok f b c):=fun j f b c hj=>by
  rw [aE] at hj
  have:=List.eq_of_mem_replicate (List.mem_of_getElem? hj)
  cases this
 have iD:∀ b,RO.has (.aH (ts++List.replicate n .aN)) b→RO.has (.aH ts) b:=fun b ⟨j,f,c,hj⟩=>by
  rcases aK hj with hj | ⟨i,_,hi⟩
  ·exact ⟨j,f,c,hj⟩
  ·exact absurd hi (my i f b c)
 have ext:Ext R w (R.reset id (.aH (ts++List.replicate n .aN))) w:=kJ aR (fun j t hj=>⟨t,iE hj,eZ.refl t⟩) (Ext.refl R w)
 have live:∀ b,Live (R.reset id (.aH (ts++List.replicate n .aN))) b→Live R b:=fun b ⟨i,r,h1,h2⟩=>by
  rcases ap aR h1 with ⟨_,rfl⟩ | ⟨_,h1⟩
  ·exact ⟨id,_,aR,iD b h2⟩
  ·exact ⟨i,r,h1,h2⟩
 refine ⟨ts,rfl,q1,⟨⟨by simp [St.aZ,af.reset,h.g.len],fun i g r h1 h2=>?_,fun i j ri rj b h1 h2 b1 b2=>?_,h.g.wf,fun g cs hg=>(h.g.cG g cs hg).mono ext,h.g.lo⟩,h.b.bl ext (fun _ _ _=>rfl) (fun _ _ _ _ h=>h) (fun _ _ _ hl=>live _ hl),h.t.mono ext,h.n,h.d.mono ext⟩,?_⟩
 ·rcases ap aR h2 with ⟨rfl,rfl⟩ | ⟨bW,h2⟩
  ·simp only [St.aZ] at h1
   rw [aj hid] at h1
   cases h1
   refine ⟨by simp [q1],fun i j f b c f' c' hi hj=>?_,fun j row t hf ht=>?_⟩
   ·rcases aK hi with hi | ⟨_,_,hi⟩
    ·rcases aK hj with hj | ⟨_,_,hj⟩
     ·exact q2 i j _ _ _ _ _ hi hj
     ·exact absurd hj (my _ _ _ _)
    ·exact absurd hi (my _ _ _ _)
   ·rcases aK hf with qT | ⟨k,hk,qT⟩
    ·rcases aK ht with ht | ⟨k',fA,ht⟩
     ·exact (q3 j row t qT ht).mono ext fun _ _ _ _=>⟨rfl,fun _ h=>h⟩
     ·have:=aQ qT
      omega
    ·rcases aK ht with ht | ⟨k',fA,ht⟩
     ·have:=aQ ht
      omega
     ·rw [aE] at ht qT
      rw [List.eq_of_mem_replicate (List.mem_of_getElem? ht),List.eq_of_mem_replicate (List.mem_of_getElem? qT)]
      exact rfl
  ·simp only [St.aZ] at h1
   rw [aB (Ne.symm bW)] at h1
   exact (h.g.obj i g r h1 h2).mono ext (fun _ _=>rfl) (fun _ _ _ h=>h)
 ·rcases ap aR h1 with ⟨g3,e1⟩ | ⟨g3,g1⟩
  ·rcases ap aR h2 with ⟨g4,e2⟩ | ⟨g4,g2⟩
   ·omega
   ·rw [e1] at b1
    exact g3.trans (h.g.inj id j _ _ b aR g2 (iD b b1) b2)
  ·rcases ap aR h2 with ⟨g4,e2⟩ | ⟨g4,g2⟩
   ·rw [e2] at b2
    exact (h.g.inj i id _ _ b g1 aR b1 (iD b b2)).trans g4.symm
   ·exact h.g.inj i j ri rj b g1 g2 b1 b2
 ·refine ⟨ext,rfl,rfl,rfl,Nat.le_refl _,fun _ _ _=>rfl,fun b _ ho=>?_,fun _ _ h _ _=>h⟩
  rcases ho with ho | ho
  ·exact .inl (live b ho)
  ·exact .inr ho
theorem aL.D5 (h:aL E R w β s a) {id eW sz:Nat} {el:TypeId} {es:List AV} {rows:List (List AV)} (hg:nth s.G id=some (.cP es sz el)) (hm:nth s.G eW=some (.ga rows sz el)) {ro:RO} {ts:List TR} (aR:nth R.obj id=some ro) (D2:nth R.obj eW=some (.aH ts))
  {t:TR} (hle:bI ro .none) (ht:xB R w sz el es t) (hh:∀ f x c,t=.tok f x c→ro.has x) :
  aL E ((R.reset id .none).reset eW (.aH (ts++[t]))) w β (s.aZ (au (au s.G id .dead) eW (.ga (rows++[es]) sz el))) a∧Step R w β s.boxes ((R.reset id .none).reset eW (.aH (ts++[t]))) w β s.boxes:=by
 have bW:id≠eW:=fun e=>by
  subst e
  rw [hg] at hm
  cases hm
 have E5:nth (R.reset id .none).obj eW=some (.aH ts):=by rw [af.reset,aB bW]; exact D2
 have Jh:nth (au s.G id .dead) eW=some (.ga rows sz el):=by rw [aB bW]; exact hm
 obtain ⟨q1,q2,q3⟩:=h.g.obj eW _ _ hm D2
 have ext:Ext R w ((R.reset id .none).reset eW (.aH (ts++[t]))) w:=kJ E5 (fun j t hj=>⟨t,iE hj,eZ.refl t⟩) (Ext.refl (R.reset id .none) w) |> fun e=>(kJ aR hle (Ext.refl R w)).trans e
 -- whose block a block is
 have iD:∀ x,RO.has (.aH (ts++[t])) x→RO.has (.aH ts) x∨ro.has x:=fun x ⟨j,f,c,hj⟩=>by
  rcases aK hj with hj | ⟨i,_,hi⟩
  ·exact .inl ⟨j,f,c,hj⟩
  ·cases i with
   | zero=>cases hi; exact .inr (hh _ _ _ rfl)
   | succ i=>cases hi
 have AD:∀ i r x,nth ((R.reset id .none).reset eW (.aH (ts++[t]))).obj i=some r→r.has x→(i=eW∧RO.has (.aH ts) x)∨(i=eW∧ro.has x)∨(i≠eW∧i≠id∧nth R.obj i=some r):=fun i r x h1 h2=>by
  rcases ap E5 h1 with ⟨rfl,rfl⟩ | ⟨k1,h1⟩
  ·rcases iD x h2 with h2 | h2
   ·exact .inl ⟨rfl,h2⟩
   ·exact .inr (.inl ⟨rfl,h2⟩)
  ·rcases ap aR h1 with ⟨rfl,rfl⟩ | ⟨k2,h1⟩
   ·exact h2.elim
   ·exact .inr (.inr ⟨k1,k2,h1⟩)
 have live:∀ x,Live ((R.reset id .none).reset eW (.aH (ts++[t]))) x→Live R x:=fun x ⟨i,r,h1,h2⟩=>by
  rcases AD i r x h1 h2 with ⟨_,k⟩ | ⟨_,k⟩ | ⟨_,_,k⟩
  ·exact ⟨eW,_,D2,k⟩
  ·exact ⟨id,_,aR,k⟩
  ·exact ⟨i,r,k,h2⟩
 refine ⟨⟨⟨by simp [St.aZ,af.reset,h.g.len],fun i g r h1 h2=>?_,fun i j ri rj x h1 h2 b1 b2=>?_,h.g.wf,fun g cs hg=>(h.g.cG g cs hg).mono ext,h.g.lo⟩,h.b.bl ext (fun _ _ _=>rfl) (fun _ _ _ _ h=>h) (fun _ _ _ hl=>live _ hl),h.t.mono ext,h.n,h.d.mono ext⟩,?_⟩
 ·rcases ap E5 h2 with ⟨rfl,rfl⟩ | ⟨k1,h2⟩
  ·simp only [St.aZ] at h1
   rw [aj Jh] at h1
   cases h1
   have JW:∀ i f b c f' c',nth ts i=some (.tok f b c)→t=.tok f' b c'→False:=fun i f b c f' c' hi ht=>bW (h.g.inj id _ _ _ b aR D2 (hh _ _ _ ht) ⟨i,f,c,hi⟩)
   refine ⟨by simp [q1],fun i j f b c f' c' hi hj=>?_,fun j row t' hf rG=>?_⟩
   ·rcases aK hi with hi | ⟨k,hk,hi⟩
    ·rcases aK hj with hj | ⟨k',fA,hj⟩
     ·exact q2 i j _ _ _ _ _ hi hj
     ·cases k' with
      | zero=>simp only [nth,Option.some.injEq] at hj; exact (JW _ _ _ _ _ _ hi hj).elim
      | succ _=>cases hj
    ·cases k with
     | succ _=>cases hi
     | zero=>
      rcases aK hj with hj | ⟨k',fA,hj⟩
      ·simp only [nth,Option.some.injEq] at hi; exact (JW _ _ _ _ _ _ hj hi).elim
      ·cases k' with
       | zero=>omega
       | succ _=>cases hj
   ·rcases aK hf with qT | ⟨k,hk,qT⟩
    ·rcases aK rG with rG | ⟨k',fA,rG⟩
     ·exact (q3 j row t' qT rG).mono ext fun _ _ _ _=>⟨rfl,fun _ h=>h⟩
     ·have:=aQ qT
      omega
    ·rcases aK rG with rG | ⟨k',fA,rG⟩
     ·have:=aQ rG
      omega
     ·have Cd:k=k':=by omega
      subst Cd
      cases k with
      | succ _=>cases qT
      | zero=>
       cases qT; cases rG
       exact ht.mono ext fun _ _ _ _=>⟨rfl,fun _ h=>h⟩
  ·simp only [St.aZ] at h1
   rw [aB (Ne.symm k1)] at h1
   rcases ap aR h2 with ⟨rfl,rfl⟩ | ⟨k2,h2⟩
   ·rw [aj hg] at h1
    cases h1
    exact trivial
   ·rw [aB (Ne.symm k2)] at h1
    exact (h.g.obj i g r h1 h2).mono ext (fun _ _=>rfl) (fun _ _ _ h=>h)
 ·rcases AD i ri x h1 b1 with ⟨k1,k2⟩ | ⟨k1,k2⟩ | ⟨k1,k2,k3⟩
  ·rcases AD j rj x h2 b2 with ⟨l1,l2⟩ | ⟨l1,l2⟩ | ⟨l1,l2,l3⟩
   ·omega
   ·omega
   ·exact absurd (h.g.inj eW j _ _ x D2 l3 k2 b2).symm l1
  ·rcases AD j rj x h2 b2 with ⟨l1,l2⟩ | ⟨l1,l2⟩ | ⟨l1,l2,l3⟩
   ·omega
   ·omega
   ·exact absurd (h.g.inj id j _ _ x aR l3 k2 b2).symm l2
  ·rcases AD j rj x h2 b2 with ⟨l1,l2⟩ | ⟨l1,l2⟩ | ⟨l1,l2,l3⟩
   ·exact absurd (h.g.inj eW i _ _ x D2 k3 l2 b1).symm k1
   ·exact absurd (h.g.inj id i _ _ x aR k3 l2 b1).symm k2
   ·exact h.g.inj i j ri rj x k3 l3 b1 b2
 ·refine ⟨ext,rfl,rfl,rfl,Nat.le_refl _,fun _ _ _=>rfl,fun b _ ho=>?_,fun _ _ h _ _=>h⟩
  rcases ho with ho | ho
  ·exact .inl (live b ho)
  ·exact .inr ho
theorem aL.Nd (h:aL E R w β s a) {id eW sz:Nat} {el:TypeId} {es:List AV} {rows:List (List AV)} (hg:nth s.G id=some (.cP es sz el)) (hm:nth s.G eW=some (.ga rows sz el)) (gd:aJ es=true) :
  ∃ R',aL E R' w β (s.aZ (au (au s.G id .dead) eW (.ga (rows++[es]) sz el))) a∧Step R w β s.boxes R' w β s.boxes∧∀ f len c,f=es.length→len=es.length→Rel R w (.cL id f 0 sz len) c→Rel R' w (.fx eW rows.length sz len) c:=by
 have bW:id≠eW:=fun e=>by
  subst e
  rw [hg] at hm
  cases hm
 have ex:∀ {i:Nat} {g:GO},nth s.G i=some g→∃ ro,nth R.obj i=some ro:=fun {i g} hi=>by
  have:=aQ hi
  rw [← h.g.len] at this
  exact ⟨R.obj[i],by rw [aE]; exact List.getElem?_eq_getElem this⟩
 obtain ⟨ro,aR⟩:=ex hg
 obtain ⟨rm,Te⟩:=ex hm
 have bh:=h.g.obj id _ _ hg aR
 have AE:=h.g.obj eW _ _ hm Te
 cases rm with
 | none=>exact AE.elim
 | aN=>exact AE.elim
 | bi _=>exact AE.elim
 | tok _ _ _ _=>exact AE.elim
 | aH ts=>
 have hlen:ts.length=rows.length:=AE.1
 have E5:nth (R.reset id .none).obj eW=some (.aH ts):=by rw [af.reset,aB bW]; exact Te
 cases ro with
 | none=>exact bh.elim
 | bi _=>exact bh.elim
 | aH _=>exact bh.elim
 | aN=>
  have Av:es=[]:=bh
  subst Av
  obtain ⟨r1,r2⟩:=h.D5 hg hm aR Te (t:=.aN) trivial rfl (fun _ _ _ e=>by cases e)
  refine ⟨_,r1,r2,fun f len c e1 e2 hc=>?_⟩
  subst e1; subst e2
  cases hc with
  | gB _ _=>exact Rel.py (aj E5) trivial
  | cL hr cM _=>
   rw [aR] at hr
   cases hr
   exact cM.elim
 | tok f0 b c k=>
  obtain ⟨rfl,rfl,h1,cur,vs,h2,h3,h4,h5,h6,h7,h8,h9⟩:=bh
  obtain ⟨r1,r2⟩:=h.D5 hg hm aR Te (t:=.tok es.length b c) trivial ⟨rfl,sk h1 gd,cur,vs,h2,h3,h4,h5,h6,h7,h8,h9⟩ (fun _ _ _ e=>by cases e; exact rfl)
  refine ⟨_,r1,r2,fun f len c' e1 e2 hc=>?_⟩
  subst e1; subst e2
  generalize hl:es.length=n at hc
  cases hc with
  | gB hr hon=>
   rw [aR] at hr
   cases hr
   have:1≤es.length:=hon
   omega
  | cL hr cM dW=>
   rw [aR] at hr
   cases hr
   obtain ⟨p1,p2⟩:=cM
   obtain ⟨p3,p4,p5⟩:=p2 hl.symm
   subst hl
   refine Rel.fx (aj E5) ⟨.tok es.length b c,?_,Nat.le_refl _,fun _=>⟨p3,?_,by omega⟩⟩ dW
   ·rw [← hlen,aE,List.getElem?_append_right (Nat.le_refl _),Nat.sub_self]
    rfl
   ·rcases p5 with p5 | p5
    ·exact .inl (by rw [p5,Nat.zero_mul])
    ·exact .inr p5
theorem tj (h:aL E R w β s a) {args:Array Operand} {t:TypeId} (ho:o.op=.call { callee:=.builtin .append,args:=args,argTypes:=#[t,t] }) {id f off sz len Qh cap y1 y2 y3 y4:Nat} {el:TypeId}
  (hl:jU E s.ab args.toList=some [.cL id f off sz len,.gC Qh 0 1 1 cap]) (hid:nth s.G Qh=some (.row [.fx y1 y2 y3 y4] el))
  {i:TI} (hi:E.ti t=some i) {elem esz eb:Nat} {ag:Bool} {z:AV} (hk:i.k=.sl elem esz ag eb (some z)) (wU:esz=1) (wT:1≤eb) (hz:z.cells.length=esz) (kG:z.aI=true)
  {v:AV} {G':List GO} (ha:dx s.G elem esz eb (.cL id f off sz len) [.fx y1 y2 y3 y4]=some (true,v,G')) :
  bn E R w β s a o ((s.aZ G').put o.dst (.v v)):=by
 have hr:=er h hl
 generalize hv:args.toList.map a.eval=vs at hr
 have hx:=cN (E:=E) (w:=w) ho vs hv
 cases hr with
 | @cons _ cx _ _ h0 h1=>
 cases h1 with
 | @cons _ cy _ _ h1 h2=>
 cases h2
 obtain ⟨eP,u,e1,e2,e3,e4,e5,e6⟩:=bH E hi
 rw [hk] at e5
 obtain ⟨ie,ue,rfl,f1,f2,f3,f4,f5,f6⟩:=cp e5
 have lV:(⟨[cx,cy]⟩:Array Value)=#[cx,cy]:=rfl
 subst wU
 cases h1 with
 | @gC _ _ _ _ _ b hb dW=>
 obtain ⟨us,k1,k2,k3,k4⟩:=h.g.obj Qh _ _ hid hb
 have D1:us.length=1:=k2.length.symm
 have ju:∀ j v,us[j]?=some v→w.cell? ((⟨b,0,none⟩:Addr).add j)=some v:=fun j v hj=>by
  rw [bO,Nat.zero_add,cell_of_row w b j _ el (0,0) k1]
  simpa using hj
 unfold dx at ha
 simp only at ha
 split at ha
 ·rename_i es aT e' fc
  split at ha
  ·rename_i bF
   simp only [Bool.and_eq_true] at bF
   obtain ⟨⟨q1,q2⟩,q3⟩:=bF
   have q1:=Nat.eq_of_beq_eq_true q1
   have q2:=Nat.eq_of_beq_eq_true q2
   have q3:=Nat.eq_of_beq_eq_true q3
   subst q1; subst q2; subst q3
   injection ha with ha; injection ha with hc ha; injection ha with p q
   subst p; subst q
   simp only [Bool.and_eq_true,decide_eq_true_eq] at hc
   refine iF h (cx:=cx) (cy:=.slice (some ⟨b,0,none⟩) 1 cap) (t:=t) (u:=t) (us:=us) (fun hh=>?_) wT hz kG f2 f3 f6 h0 (y:=.fx y1 y2 y3 y4) (ys:=[]) (fun zc kz=>?_) (fun e he=>?_) k2 k3 (by simpa using D1) fc hc.1.1.1 hc.1.1.2 hc.1.2 hc.2
   ·rw [hx]
    simp only [builtin,lV,Sem.run_bind,hh,Result.andThen_ok,Sem.run_pure]
   ·refine ⟨fun hn=>absurd hn (by simp),fun hh zg zh=>run_append_nil (P:=E.P) w t o.type e' ie zc e2 f1 kz _ _ cap us (by rw [D1,f2]) ju hh zg zh,fun _ b sLen dQ rF uD E2 hg zg zh=>run_append_grow (P:=E.P) w t o.type e' ie zc e2 f1 kz b sLen dQ rF uD E2 _ _ cap us (by rw [D1,f2]) ju hg zg zh,fun _ g k sLen dQ cur hg cH mb=>fj (P:=E.P) w t o.type e' ie e2 f1 g k sLen dQ cur hg _ _ cap us (by rw [D1,f2]) ju k3 cH mb⟩
   ·rcases List.mem_cons.1 he with rfl | he
    ·exact ⟨rfl,rfl⟩
    ·cases he
  ·cases ha
 ·cases ha
def rH:List AV→Bool
 | []=>true
 | .list .nil _ [] :: l=>rH l
 | _ :: _=>false
theorem xP {g:Nat→AV} (hg:∀ j,(g j).cells=[g j]) (hR:∀ j sz c,Rel R w (.list .nil sz []) c→Rel R w (g j) c):∀ {es:List AV} {vs:List Value} (k:Nat),rH es=true→aA R w (ar es) vs→aA R w (ar ((List.range' k es.length).map g)) vs
 | [],_,_,_,h=>h
 | e :: es,vs,k,hn,h=>by
  unfold rH at hn
  split at hn
  ·rename_i h0; cases h0
  ·rename_i sz l h0
   cases h0
   simp only [ar,AV.cells,List.singleton_append] at h
   cases h with
   | cons h1 h2=>
   simp only [List.length_cons,List.range'_succ,List.map_cons,ar,hg,List.singleton_append]
   exact .cons (hR k _ _ h1) (xP hg hR (k+1) hn h2)
  ·cases hn
theorem aL.GW (h:aL E R w β s a) {id:Nat} {es:List AV} {el:TypeId} (hid:nth s.G id=some (.cP es 1 el)) (hn:rH es=true) {g:Nat→AV} (hg:∀ j,(g j).cells=[g j]) (ht:∀ j,(g j).aI=true) (hR:∀ j sz c,Rel R w (.list .nil sz []) c→Rel R w (g j) c) :
  aL E R w β (s.aZ (au s.G id (.cP ((List.range es.length).map g) 1 el))) a∧Step R w β s.boxes R w β s.boxes:=by
 refine ⟨⟨⟨by simp [St.aZ,h.g.len],fun i go r h1 h2=>?_,h.g.inj,h.g.wf,h.g.cG,h.g.lo⟩,h.b,h.t,h.n,h.d⟩,Step.refl _ _ _ _⟩
 rcases bK h1 with ⟨rfl,rfl,_⟩ | ⟨_,h1⟩
 ·have bh:=h.g.obj id _ _ hid h2
  have hlen:((List.range es.length).map g).length=es.length:=by simp
  cases r with
  | none=>exact bh.elim
  | bi _=>exact bh.elim
  | aH _=>exact bh.elim
  | aN=>
   have he:es=[]:=bh
   subst he
   exact rfl
  | tok f b c k=>
   obtain ⟨q1,q2,q3,cur,vs,q4,q5,q6,q7,q8,q9,Yf,Yg⟩:=bh
   refine ⟨q1,by rw [hlen]; exact q2,fun e he=>?_,cur,vs,q4,q5,q6,q7,q8,?_,Yf,Yg⟩
   ·obtain ⟨j,_,rfl⟩:=List.mem_map.1 he
    exact ⟨by rw [hg]; rfl,ht j⟩
   ·rw [List.range_eq_range']
    exact xP hg hR 0 hn q9
 ·exact h.g.obj i go r h1 h2
end
end Go.Am
