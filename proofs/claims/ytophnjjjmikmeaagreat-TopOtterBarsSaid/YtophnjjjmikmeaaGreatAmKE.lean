/- The abstract machine: what it does is what the model does: append and copy. -/
import Derived.Test.YtophnjjjmikmeaaGreatAmKD
import Derived.Lib.AppendStr
set_option linter.all false
namespace Go.Am
open Go
section fams
variable {E:Env} {R R':af} {w w':World} {β β':Nat→Nat} {s s':St} {a a':Act} {o:Oper}
theorem sB {α:Type} {l r:List α} {i:Nat} {x:α} (h:nth r i=some x):nth (l++r) (l.length+i)=some x:=by
 rw [aG] at *
 rw [List.getElem?_append_right (Nat.le_add_right _ _),Nat.add_sub_cancel_left]
 exact h
theorem jq {α:Type} {l r:List α} {i:Nat} {x:α} (h:nth l i=some x):nth (l++r) i=some x:=by
 have:=aT h
 rw [aG] at *
 rw [List.getElem?_append_left this]
 exact h
theorem aO {α:Type} {l r:List α} {i:Nat} {x:α} (h:nth (l++r) i=some x):nth l i=some x∨∃ j,i=l.length+j∧nth r j=some x:=by
 rw [aG] at h
 rcases Nat.lt_or_ge i l.length with bK | qe
 ·rw [List.getElem?_append_left bK] at h
  exact .inl (by rw [aG]; exact h)
 ·rw [List.getElem?_append_right qe] at h
  exact .inr ⟨i - l.length,by omega,by rw [aG]; exact h⟩
theorem aQ.AJ (h:aQ E R w β s a) {id sz:Nat} {e:TypeId} {fs:List Nat} (aX:nth s.G id=some (.aM fs sz e)) {nfs:List Nat} {nts:List TR} (hl:nts.length=nfs.length)
  (cS:∀ j f t,nth nfs j=some f→nth nts j=some t→zf R w sz e f t) (nu:∀ j f b c,nth nts j≠some (.tok f b c)) {ro:RO} (aU:nth R.obj id=some ro) :
  ∃ ts,ro=.aM ts∧ts.length=fs.length∧aQ E (R.reset id (.aM (ts++nts))) w β (s.bn (au s.G id (.aM (fs++nfs) sz e))) a∧Step R w β s.boxes (R.reset id (.aM (ts++nts))) w β s.boxes:=by
 have bt:=h.g.obj id _ _ aX aU
 cases ro with
 | none=>exact bt.elim
 | aR=>exact bt.elim
 | bw _=>exact bt.elim
 | tok _ _ _ _=>exact bt.elim
 | aM ts=>
 obtain ⟨q1,q2,q3⟩:=bt
 have jo:∀ b,RO.has (.aM (ts++nts)) b→RO.has (.aM ts) b:=fun b ⟨j,f,c,hj⟩=>by
  rcases aO hj with hj | ⟨i,_,hi⟩
  ·exact ⟨j,f,c,hj⟩
  ·exact absurd hi (nu i f b c)
 have ext:Ext R w (R.reset id (.aM (ts++nts))) w:=⟨fun _ _ h=>h,fun _ _ _=>rfl,fun i r hr=>by
  by_cases e:id=i
  ·subst e
   rw [aU] at hr
   cases hr
   exact ⟨_,an aU,fun j t hj=>⟨t,jq hj,fN.refl t⟩⟩
  ·exact ⟨r,by rw [af.reset,aD e]; exact hr,bQ.refl r⟩,dU.refl w⟩
 have live:∀ b,Live (R.reset id (.aM (ts++nts))) b→Live R b:=fun b ⟨i,r,h1,h2⟩=>by
  rcases aq aU h1 with ⟨_,rfl⟩ | ⟨_,h1⟩
  ·exact ⟨id,_,aU,jo b h2⟩
  ·exact ⟨i,r,h1,h2⟩
 refine ⟨ts,rfl,q1,⟨⟨by simp [St.bn,af.reset,h.g.len],fun i g r h1 h2=>?_,fun i j ri rj b h1 h2 b1 b2=>?_,h.g.wf,fun g cs hg=>(h.g.ck g cs hg).mono ext,h.g.lo⟩,h.b.bY ext (fun _ _ _=>rfl) (fun _ _ _ _ h=>h) (fun _ _ _ hl=>live _ hl),h.t.mono ext,h.n,h.d.mono ext⟩,?_⟩
 ·rcases aq aU h2 with ⟨rfl,rfl⟩ | ⟨cg,h2⟩
  ·simp only [St.bn] at h1
   rw [an aX] at h1
   cases h1
   refine ⟨by simp [q1,hl],fun i j f b c f' c' hi hj=>?_,fun j f t hf ht=>?_⟩
   ·rcases aO hi with hi | ⟨_,_,hi⟩
    ·rcases aO hj with hj | ⟨_,_,hj⟩
     ·exact q2 i j _ _ _ _ _ hi hj
     ·exact absurd hj (nu _ _ _ _)
    ·exact absurd hi (nu _ _ _ _)
   ·rcases aO hf with sa | ⟨k,hk,sa⟩
    ·rcases aO ht with ht | ⟨k',gm,ht⟩
     ·exact q3 j f t sa ht
     ·have:=aT sa
      omega
    ·rcases aO ht with ht | ⟨k',gm,ht⟩
     ·have:=aT ht
      omega
     ·have D7:k=k':=by omega
      subst D7
      exact cS k f t sa ht
  ·simp only [St.bn] at h1
   rw [aD (Ne.symm cg)] at h1
   exact (h.g.obj i g r h1 h2).mono ext (fun _ _=>rfl) (fun _ _ _ h=>h)
 ·rcases aq aU h1 with ⟨g3,e1⟩ | ⟨g3,g1⟩
  ·rcases aq aU h2 with ⟨g4,e2⟩ | ⟨g4,g2⟩
   ·omega
   ·rw [e1] at b1
    exact g3.trans (h.g.inj id j _ _ b aU g2 (jo b b1) b2)
  ·rcases aq aU h2 with ⟨g4,e2⟩ | ⟨g4,g2⟩
   ·rw [e2] at b2
    exact (h.g.inj i id _ _ b g1 aU b1 (jo b b2)).trans g4.symm
   ·exact h.g.inj i j ri rj b g1 g2 b1 b2
 ·refine ⟨ext,rfl,rfl,rfl,Nat.le_refl _,fun _ _ _=>rfl,fun b _ ho=>?_,fun _ _ h _ _=>h⟩
  rcases ho with ho | ho
  ·exact .inl (live b ho)
  ·exact .inr ho
theorem bB.step {s1:St} {s2:St} (e:s1.boxes=s.boxes) (st:Step R w β s.boxes R' w β s.boxes) (h:bB E R' w β s1 a o s2):bB E R w β s a o s2:=by
 obtain ⟨nx,x,w',R2,β',h1,h2,h3,h4⟩:=h
 rw [e] at h4
 exact ⟨nx,x,w',R2,β',h1,h2,h3,st.trans h4⟩
theorem Ur {c:Bool} {α:Type} {a b:α} (h:(bif c then some a else none)=some b):c=true∧a=b:=by
 cases c
 ·cases h
 ·exact ⟨rfl,Option.some.inj h⟩
theorem ka {sz:Nat} {e:TypeId}:∀ {G:List GO} {i j:Nat},hJ G sz e i=some j→∃ fs,nth G (j - i)=some (.aM fs sz e)∧i≤j
 | [],i,j,h=>by cases h
 | g :: G,i,j,h=>by
  have step:hJ G sz e (i+1)=some j→∃ fs,nth (g :: G) (j - i)=some (.aM fs sz e)∧i≤j:=fun h=>by
   obtain ⟨fs,h1,h2⟩:=ka h
   refine ⟨fs,?_,by omega⟩
   rw [show j - i=(j - (i+1))+1 by omega]
   exact h1
  unfold hJ at h
  split at h
  ·rename_i iP
   cases iP
  ·rename_i iP
   obtain ⟨rfl,rfl⟩:=List.cons.inj iP
   split at h
   ·rename_i j' hj
    cases h
    exact step hj
   ·obtain ⟨hc,rfl⟩:=Ur h
    ·rw [Bool.and_eq_true] at hc
     have h1:=Nat.eq_of_beq_eq_true hc.1
     have h2:=Nat.eq_of_beq_eq_true hc.2
     subst h1 h2
     exact ⟨_,by rw [Nat.sub_self]; rfl,Nat.le_refl _⟩
  ·rename_i x G1 _ _ _ hn iP
   obtain ⟨rfl,rfl⟩:=List.cons.inj iP
   exact step h
theorem aQ.Gc {s0:St} {d:Option Tmp} {x y:AV} (h:aQ E R w β (s0.put d (.v x)) a) (hw:∀ c,Rel R w x c→Rel R w y c):aQ E R w β (s0.put d (.v y)) a:=by
 cases d with
 | none=>exact h
 | some d=>
  simp only [St.put] at h ⊢
  cases hb:Nat.blt d s0.n with
  | false=>rw [hb] at h; exact h
  | true=>
   rw [hb] at h
   refine ⟨h.g,h.b,fun i hi=>?_,h.n,h.d⟩
   by_cases e:d=i
   ·subst e
    rw [ax]
    obtain ⟨c,k1,k2⟩:=h.t d (by rw [ax]; simp)
    rw [ax] at k2
    exact ⟨c,k1,hw c k2⟩
   ·rw [aI e] at hi ⊢
    have:=h.t i (by rw [aI e]; exact hi)
    rw [aI e] at this
    exact this
theorem bB.Gc {s0:St} {x y:AV} (h:bB E R w β s a o (s0.put o.dst (.v x))) (hw:∀ R' w',Ext R w R' w'→∀ c,Rel R' w' x c→Rel R' w' y c):bB E R w β s a o (s0.put o.dst (.v y)):=by
 obtain ⟨nx,v,w',R',β',h1,h2,h3,h4⟩:=h
 refine ⟨nx,v,w',R',β',h1,h2,h3.Gc (hw R' w' h4.ext),?_⟩
 rw [aS] at h4 ⊢
 exact h4
end fams
section ops
variable {E:Env} {R:af} {w:World} {β:Nat→Nat} {s:St} {a:Act} {o:Oper}
theorem fA {k:LK} {sz esz:Nat} {es:List AV} {c:Value} (h:Rel R w (.list k sz es) c) (dx:es=[]∨sz=esz) :
  fq esz es∧∃ vs,aC R w (ar es) vs∧(∀ v∈vs,v.oneCell'=true)∧vs.length=es.length * esz ∧
   ((es=[]∧vs=[]∧∃ ad,c=.slice ad 0 0∧(ad=none∨k=.gX))∨∃ b o' cap,c=.slice (some ⟨b,o',none⟩) es.length cap∧es.length≤cap∧As R k b o' es.length cap∧(∀ j v,vs[j]?=some v→w.cell? ((⟨b,o',none⟩:Addr).add j)=some v)∧fM R w b o' esz es):=by
 cases h with
 | iC=>exact ⟨fun e he=>by simp at he,[],.nil,by simp,by simp,.inl ⟨rfl,rfl,_,rfl,.inl rfl⟩⟩
 | hZ=>exact ⟨fun e he=>by simp at he,[],.nil,by simp,by simp,.inl ⟨rfl,rfl,_,rfl,.inl rfl⟩⟩
 | lj=>exact ⟨fun e he=>by simp at he,[],.nil,by simp,by simp,.inl ⟨rfl,rfl,_,rfl,.inr rfl⟩⟩
 | jY=>exact ⟨fun e he=>by simp at he,[],.nil,by simp,by simp,.inl ⟨rfl,rfl,_,rfl,.inl rfl⟩⟩
 | kH=>exact ⟨fun e he=>by simp at he,[],.nil,by simp,by simp,.inl ⟨rfl,rfl,_,rfl,.inl rfl⟩⟩
 | @list _ _ _ b o' len cap hr hlen eh D7=>
  subst hlen
  have iE:fM R w b o' esz es:=by
   rcases dx with rfl | rfl
   ·exact .nil
   ·exact hr
  obtain ⟨g0,vs,g1,g2,g3,g4⟩:=vw iE
  refine ⟨g0,vs,g1,g2,by rw [← g1.length,cG g0],.inr ⟨b,o',cap,rfl,eh,D7,fun j v hv=>?_,iE⟩⟩
  rw [bZ]
  exact g3 j v hv
theorem vD {b esz:Nat} {es:List AV} {vs:List Value} {w:World} {R:af} (h0:fq esz es) (h:aC R w (ar es) vs) (h1:∀ v∈vs,v.oneCell'=true)
  (hc:∀ j v,vs[j]?=some v→w.cell? ⟨b,j,none⟩=some v) (hI:∀ j,j < vs.length→R.I b j):fM R w b 0 esz es:=
 jS h0 (dZ.make h h1 (fun j v hv=>by rw [Nat.zero_add]; exact hc j v hv) (fun j hj=>by rw [Nat.zero_add]; exact hI j (by rw [← h.length]; exact hj)))
theorem gK {sz:Nat} {l r:List AV} (h:fq sz l) (k:fq sz r):fq sz (l++r):=fun e he=>by
 rcases List.mem_append.1 he with he | he
 ·exact h e he
 ·exact k e he
theorem fB {l r:List Value} (h:∀ v∈l,v.oneCell'=true) (k:∀ v∈r,v.oneCell'=true):∀ v∈l++r,v.oneCell'=true:=fun v hv=>by
 rcases List.mem_append.1 hv with hv | hv
 ·exact h v hv
 ·exact k v hv
structure Qe (P:Program) (w:World) (t u ty e:TypeId) (i:TypeInfo) (z:Value) (cy:Value) (n:Nat) (us:List Value):Prop where
 zero:n=0→∀ base len cap,len≤cap→(Builtin.append_ #[t,u] ty #[.slice base len cap,cy]).run P w=.ok (.slice base len cap) w
 nil:0 < n→(n:Int)≤9223372036854775807→n * i.bytes≤281474976710656→(Builtin.append_ #[t,u] ty #[.slice none 0 0,cy]).run P w =
   .ok (.slice (some ⟨w.heap.size,0,none⟩) n (grownCap w n 0 e)) (w.drew.alloc (.cells (us.toArray++Builtin.zeroCells z.cells (grownCap w n 0 e - n)) e))
 grow:0 < n→∀ (b:Addr) (sLen ej:Nat) (sC:List Value),sC.length=sLen * i.size→(∀ j v,sC[j]?=some v→w.cell? (b.add j)=some v)→ej < sLen+n→((sLen+n:Nat):Int)≤9223372036854775807→Builtin.nextslicecap (sLen+n) ej * i.bytes≤281474976710656 →
   (Builtin.append_ #[t,u] ty #[.slice (some b) sLen ej,cy]).run P w=.ok (.slice (some ⟨w.heap.size,0,none⟩) (sLen+n) (grownCap w (sLen+n) ej e))
    (w.drew.alloc (.cells (sC.toArray++us.toArray++Builtin.zeroCells z.cells (grownCap w (sLen+n) ej e - (sLen+n))) e))
 room:0 < n→∀ (g k sLen ej:Nat) (cur:Array Value),w.heap[g]?=some (.cells cur e (0,0))→sLen+n≤ej→k+sLen * i.size+us.length≤cur.size →
   (Builtin.append_ #[t,u] ty #[.slice (some ⟨g,k,none⟩) sLen ej,cy]).run P w=.ok (.slice (some ⟨g,k,none⟩) (sLen+n) ej) (w.setRow g (cur.toList.take (k+sLen * i.size)++us++cur.toList.drop (k+sLen * i.size+us.length)).toArray)
theorem Qe.Js {P:Program} {w:World} {t u ty e:TypeId} {i:TypeInfo} {z:Value} {cy:Value} {n:Nat} {us:List Value} (h:Qe P w t u ty e i z cy n us) (hn:0 < n) (g sLen ej:Nat) (cur:Array Value) (h1:w.heap[g]?=some (.cells cur e (0,0))) (h2:sLen+n≤ej) (h3:sLen * i.size+us.length≤cur.size) :
  (Builtin.append_ #[t,u] ty #[.slice (some ⟨g,0,none⟩) sLen ej,cy]).run P w=.ok (.slice (some ⟨g,0,none⟩) (sLen+n) ej) (w.setRow g (cur.toList.take (sLen * i.size)++us++cur.toList.drop (sLen * i.size+us.length)).toArray):=by
 have:=h.room hn g 0 sLen ej cur h1 h2 (by omega)
 rw [Nat.zero_add] at this
 exact this
theorem fT {P:Program} (w:World) (t ty e:TypeId) (i:TypeInfo) (ht:P.underlying t=some (.slice e)) (hi:P.info? e=some i)
  (g k sLen ej:Nat) (cur:Array Value) (hg:w.heap[g]?=some (.cells cur e (0,0)))
  (a:Addr) (m c:Nat) (news:List Value) (hl:news.length=m * i.size) (Us:∀ j u,news[j]?=some u→w.cell? (a.add j)=some u) (h1:∀ u∈news,u.oneCell'=true)
  (cQ:sLen+m≤ej) (lO:k+sLen * i.size+news.length≤cur.size) :
  (Builtin.append_ #[t,t] ty #[.slice (some ⟨g,k,none⟩) sLen ej,.slice (some a) m c]).run P w =
   .ok (.slice (some ⟨g,k,none⟩) (sLen+m) ej) (w.setRow g (cur.toList.take (k+sLen * i.size)++news++cur.toList.drop (k+sLen * i.size+news.length)).toArray):=by
 have hf:=run_firstCells_some (P:=P) w i.size m a m c news hl Us
 have gy:=run_storeCells_at P g (k+sLen * i.size) e news 0 cur w hg (by simpa using lO) h1
 simp only [Nat.add_zero] at gy
 simp [Builtin.append_,run_underlying ht,sizeOf,typeInfo,hi,Builtin.lenOf,cQ,hf,Addr.add_lit,gy]
theorem lP {P:Program} (w:World) (t u ty e:TypeId) (i:TypeInfo) (ht:P.underlying t=some (.slice e)) (hu:P.underlying u=some .string) (hi:P.info? e=some i) (DB:i.size=1)
  (g k sLen ej:Nat) (cur:Array Value) (hg:w.heap[g]?=some (.cells cur e (0,0))) (s:ByteArray)
  (cQ:sLen+s.size≤ej) (lO:k+sLen+s.size≤cur.size) :
  (Builtin.append_ #[t,u] ty #[.slice (some ⟨g,k,none⟩) sLen ej,.string s]).run P w =
   .ok (.slice (some ⟨g,k,none⟩) (sLen+s.size) ej) (w.setRow g (cur.toList.take (k+sLen)++Lib.strCells s++cur.toList.drop (k+sLen+s.size)).toArray):=by
 have hf:=Lib.run_firstCells_string (P:=P) w 1 s
 have gy:=run_storeCells_at P g (k+sLen) e (Lib.strCells s) 0 cur w hg (by simpa [Lib.strCells_length] using lO) (Lib.strCells_oneCell s)
 simp only [Nat.add_zero,Lib.strCells_length] at gy
 simp [Builtin.append_,run_underlying ht,run_underlying hu,sizeOf,typeInfo,hi,DB,Builtin.lenOf,cQ,hf,Addr.add_lit,gy]
theorem jr (h:aQ E R w β s a) {t u:TypeId} {id f off sz len:Nat} {y:AV} {ys:List AV} {cx cy:Value} {us:List Value}
  (eB:∀ {c:Value} {w':World},(Builtin.append_ #[t,u] o.type #[cx,cy]).run E.P w=.ok c w'→(execOp a.eval o).run E.P w=.ok (.value c) w')
  {elem esz eb:Nat} {z:AV} (yA:1≤eb) (hz:z.cells.length=esz) (lM:z.aN=true)
  {ie:TypeInfo} (f2:ie.size=esz) (f3:ie.bytes=eb) (f6:fk ie=some z)
  (h0:Rel R w (.cT id f off sz len) cx) (hA:∀ zc:Value,ie.zero=some zc→Qe E.P w t u o.type elem ie zc cy (y :: ys).length us)
  (y0:da esz (y :: ys)) (y1:aC R w (ar (y :: ys)) us) (y2:∀ v∈us,v.oneCell'=true) (y3:us.length=(y :: ys).length * esz)
  {es:List AV} (aX:nth s.G id=some (.cK es esz elem)) (hf:f=es.length) (XW:off=0) (r7:len=f) (hb:(es.length+(y :: ys).length) * eb≤140737488355328) :
  bB E R w β s a o ((s.bn (au s.G id (.cK (es++(y :: ys)) esz elem))).put o.dst (.v (.cT id (es.length+(y :: ys).length) 0 esz (es.length+(y :: ys).length)))):=by
 obtain ⟨zc,lD,BO⟩:=cI f6
 have hA:=hA zc lD
 obtain ⟨d1,d2⟩:=Rel.cells (BO R w) lM
 have mX:zc.cells.size=esz:=by rw [← hz,d1.length]; simp
 have lu:0 < (y :: ys).length:=by simp
 have hm:es.length+(y :: ys).length≤140737488355328:=Nat.le_trans (Nat.le_mul_of_pos_right _ yA) hb
 have qC:(es++(y :: ys)).length=es.length+(y :: ys).length:=List.length_append
 -- where a new block has been made
 have fresh:∀ {xs:List Value} {old:Nat} {r0:RO},nth R.obj id=some r0→(∀ b c,bQ r0 (.tok (es.length+(y :: ys).length) b c 0))→da esz es→aC R w (ar es) xs→(∀ v∈xs,v.oneCell'=true)→xs.length=es.length * esz →
   (Builtin.append_ #[t,u] o.type #[cx,cy]).run E.P w=.ok (.slice (some ⟨w.heap.size,0,none⟩) (es.length+(y :: ys).length) (grownCap w (es.length+(y :: ys).length) old elem)) (w.drew.alloc (.cells (xs.toArray++us.toArray++Builtin.zeroCells zc.cells (grownCap w (es.length+(y :: ys).length) old elem - (es.length+(y :: ys).length))) elem)) →
   bB E R w β s a o ((s.bn (au s.G id (.cK (es++(y :: ys)) esz elem))).put o.dst (.v (.cT id (es.length+(y :: ys).length) 0 esz (es.length+(y :: ys).length)))):=by
  intro xs old r0 aU hle B2 Qf sj vE ba
  have qe:=grownCap_ge w (es.length+(y :: ys).length) old elem
  obtain ⟨r1,r2⟩:=h.Qd (cur:=xs.toArray++us.toArray++Builtin.zeroCells zc.cells (grownCap w (es.length+(y :: ys).length) old elem - (es.length+(y :: ys).length))) (vs:=xs++us) (es':=es++(y :: ys)) aX aU (by rw [qC]; exact hle) (by rw [qC]; exact qe) (grownCap_le_maxLen w _ old elem (by unfold maxLen; omega)) (by
   simp only [Array.size_append,List.size_toArray,size_zeroCells,mX,vE,y3,← Nat.add_mul]
   congr 1
   omega) (qB B2 y0) (by rw [b7]; exact Qf.append y1) (fB sj y2) (by
   rw [qC]
   simp only [Array.toList_append]
   exact List.take_left' (by rw [List.length_append,vE,y3,Nat.add_mul]))
  rw [qC] at r1 r2
  refine ⟨_,_,_,_,β,eB ba,.inl rfl,r1.put o.dst ?_,by rw [aS]; exact r2⟩
  exact Rel.cT (an aU) ⟨Nat.le_refl _,fun _=>⟨rfl,Nat.zero_add _,.inl (Nat.zero_mul _).symm⟩⟩ qe
 cases h0 with
 | @gT _ _ ro aU hon=>
  have bt:=h.g.obj id _ _ aX aU
  have XX:es=[]:=List.eq_nil_of_length_eq_zero hf.symm
  subst XX
  cases ro with
  | none=>exact bt.elim
  | bw _=>exact bt.elim
  | aM _=>exact bt.elim
  | tok f' g c k0=>
   obtain ⟨_,rfl,_⟩:=bt
   simp [li] at hon
  | aR=>
   simp only [List.length_nil] at hb
   have ba:=hA.nil lu (by omega) (by rw [f3]; rw [Nat.zero_add] at hb; omega)
   exact fresh (xs:=[]) (old:=0) aU (fun b c=>by simp only [bQ]; omega) (fun e he=>by simp at he) .nil (by simp) (by simp) (by simpa using ba)
 | @cT _ _ _ _ _ cap b o' ro aU cS eh=>
  subst hf; subst XW; subst r7
  obtain ⟨b',c',cur,vs,rfl,g1,g2,g3,g4,g5,g6,g7,g8,g9⟩:=kS h.g aX aU (fun k=>by subst k; exact cS)
  obtain ⟨rfl,DE,mZ⟩:=cS.2 rfl
  rw [Nat.zero_add] at DE
  subst DE
  have DC:vs.length=es.length * esz:=by rw [← g7.length,bD g1]
  have gj:∀ j v,vs[j]?=some v→cur[j]?=some v:=fun j v hj=>by
   rw [← g9,List.getElem?_take] at hj
   split at hj
   ·rw [← Array.getElem?_toList]; exact hj
   ·cases hj
  by_cases cQ:es.length+(y :: ys).length≤cap
  ·have mY:o'=0:=by
    rcases mZ with mZ | mZ
    ·rw [mZ,Nat.zero_mul]
    ·rw [List.length_cons] at cQ; omega
   subst mY
   have hle:(es.length+(y :: ys).length) * esz≤cap * esz:=Nat.mul_le_mul_right _ cQ
   have ba:=hA.Js lu b es.length cap cur g2 cQ (by rw [f2,y3,← Nat.add_mul,g5]; exact hle)
   rw [f2] at ba
   have gi:cur.toList.length=cap * esz:=by rw [show cur.toList.length=cur.size from Array.length_toList,g5]
   obtain ⟨r1,r2⟩:=h.MH (cur2:=(cur.toList.take (es.length * esz)++us++cur.toList.drop (es.length * esz+us.length)).toArray) (vs:=vs++us) (es':=es++(y :: ys)) aX aU (by rw [qC]; omega) (by rw [qC]; exact cQ) g2 (by
    rw [List.size_toArray,← Array.length_toList]
    simp only [List.length_append,List.length_take,List.length_drop,y3,gi]
    rw [Nat.add_mul] at hle
    omega) (qB g1 y0) (by rw [b7]; exact g7.append y1) (fB g8 y2) (by
    rw [qC,List.toList_toArray,g9]
    exact List.take_left' (by rw [List.length_append,DC,y3,Nat.add_mul]))
   rw [qC] at r1 r2
   refine ⟨_,_,_,_,β,eB ba,.inl rfl,r1.put o.dst ?_,by rw [aS]; exact r2⟩
   exact Rel.cT (an aU) ⟨Nat.le_refl _,fun _=>⟨rfl,Nat.zero_add _,.inl (Nat.zero_mul _).symm⟩⟩ cQ
  ·have ba:=hA.grow lu ⟨b,o',none⟩ es.length cap vs (by rw [DC,f2]) (fun j v hj=>by
    rw [bZ]
    have DD:=(List.getElem?_eq_some_iff.1 hj).1
    have mY:o'=0:=by
     rcases mZ with mZ | mZ
     ·rw [mZ,Nat.zero_mul]
     ·have:es.length=0:=by omega
      rw [DC,this] at DD
      omega
    subst mY
    rw [Nat.zero_add,cell_of_row w b j cur elem (0,0) g2]
    exact gj j v hj) (by omega) (by omega) (growslice_fits (by omega) (by rw [f3]; exact hb))
   exact fresh (xs:=vs) (old:=cap) aU (fun b c=>⟨by omega,fun e=>by omega⟩) g1 g7 g8 DC ba
section rows
variable {E:Env} {R R':af} {w w':World} {β:Nat→Nat} {s:St} {a:Act} {o:Oper}
theorem zg.mono {sz:Nat} {e:TypeId} {row:List AV} {t:TR} (h:zg R w sz e row t) (ex:Ext R w R' w') (hb:∀ f b c,t=.tok f b c→w'.heap[b]?=w.heap[b]?∧∀ o,R'.I b o→R.I b o):zg R' w' sz e row t:=by
 cases t with
 | aR=>exact h
 | full _=>exact h
 | tok f b c=>
  obtain ⟨h5,jD,cur,vs,k1,k2,k3,k4,k5,k6,k7,k8⟩:=h
  obtain ⟨m1,m2⟩:=hb f b c rfl
  exact ⟨h5,jD,cur,vs,m1.trans k1,k2,k3,k4,fun o ho=>k5 o (m2 o ho),k6.mono ex,k7,k8⟩
theorem aQ.Jt (h:aQ E R w β s a) {rows:List (List AV)} {row':List AV} {elem:TypeId} {sz id j n b c:Nat} {ts:List TR} {t0:TR}
  (hg:nth s.G id=some (.gY rows sz elem)) (aX:nth R.obj id=some (.aM ts)) (hj:nth ts j=some t0)
  (hb:b=w.heap.size∨∃ f c0,t0=.tok f b c0)
  (e:Ext R w (R.reset id (.aM (au ts j (.tok n b c)))) w')
  (old:∀ b',b'≠b→b' < w.heap.size→w'.heap[b']?=w.heap[b']?)
  (dx:w.heap.size≤w'.heap.size) (jI:zg (R.reset id (.aM (au ts j (.tok n b c)))) w' sz elem row' (.tok n b c))
  (hd:E.lo≤w.drawn→E.lo≤w'.drawn) (os:w'.os=w.os) (tp:w'.tape=w.tape) (ou:w'.output=w.output) :
  aQ E (R.reset id (.aM (au ts j (.tok n b c)))) w' β (s.bn (au s.G id (.gY (au rows j row') sz elem))) a ∧
  Step R w β s.boxes (R.reset id (.aM (au ts j (.tok n b c)))) w' β s.boxes:=by
 obtain ⟨m1,m2,m3⟩:=h.g.obj id _ _ hg aX
 have bK:∀ x,RO.has (.aM ts) x→x < w.heap.size:=fun x hx=>h.g.bE ⟨id,_,aX,hx⟩
 have jo:∀ x,RO.has (.aM (au ts j (.tok n b c))) x→x=b∨RO.has (.aM ts) x:=fun x ⟨j',f,c1,DD⟩=>by
  rcases bT DD with ⟨_,hx,_⟩ | ⟨_,DD⟩
  ·cases hx; exact .inl rfl
  ·exact .inr ⟨j',f,c1,DD⟩
 have O4:b < w.heap.size→RO.has (.aM ts) b:=fun hl=>by
  rcases hb with hb | ⟨f,c0,rfl⟩
  ·omega
  ·exact ⟨j,f,c0,hj⟩
 have live:∀ x,x < w.heap.size→Live (R.reset id (.aM (au ts j (.tok n b c)))) x→Live R x:=fun x hx ⟨i,r,h1,h2⟩=>by
  rcases aq aX h1 with ⟨rfl,rfl⟩ | ⟨_,h1⟩
  ·rcases jo x h2 with rfl | h2
   ·exact ⟨i,_,aX,O4 hx⟩
   ·exact ⟨i,_,aX,h2⟩
  ·exact ⟨i,r,h1,h2⟩
 have Qg:∀ i r x,nth R.obj i=some r→i≠id→r.has x→x≠b:=fun i r x hi cg hx e=>by
  subst e
  have hl:=h.g.bE ⟨i,r,hi,hx⟩
  exact cg (h.g.inj i id _ _ x hi aX hx (O4 hl))
 have lQ:∀ j' f x c1,nth ts j'=some (.tok f x c1)→j≠j'→x≠b:=fun j' f x c1 DD cg e=>by
  subst e
  have hl:=bK x ⟨j',f,c1,DD⟩
  rcases hb with hb | ⟨f0,c0,rfl⟩
  ·omega
  ·exact cg (m2 _ _ _ _ _ _ _ hj DD)
 have vC:∀ k cs,cX s.boxes k=some cs→β k≠b:=fun k cs hk e=>by
  have hl:=h.cU (.inr ⟨k,cs,hk,rfl⟩)
  exact (h.b.box k cs hk).2.2 ⟨id,_,aX,by rw [e]; exact O4 (e ▸ hl)⟩
 refine ⟨⟨⟨by simp [St.bn,af.reset,h.g.len],fun i gg r jZ h2=>?_,fun i j' ri rj x jZ h2 b1 b2=>?_,fun b o hi=>Nat.lt_of_lt_of_le (h.g.wf b o hi) dx,fun g cs hg=>(h.g.ck g cs hg).mono e,hd h.g.lo⟩,?_,h.t.mono e,h.n,h.d.mono e⟩,?_⟩
 ·rcases aq aX h2 with ⟨rfl,rfl⟩ | ⟨cg,h2⟩
  ·simp only [St.bn] at jZ
   rw [an hg] at jZ
   cases jZ
   refine ⟨by rw [dz,dz]; exact m1,fun i1 i2 f1 b1 c1 f2 c2 h1 h2=>?_,fun j' row t iE qF=>?_⟩
   ·rcases bT h1 with ⟨q1,q2,_⟩ | ⟨q1,q2⟩
    ·rcases bT h2 with ⟨p1,p2,_⟩ | ⟨p1,p2⟩
     ·omega
     ·cases q2
      exact absurd rfl (lQ _ _ _ _ p2 p1)
    ·rcases bT h2 with ⟨p1,p2,_⟩ | ⟨p1,p2⟩
     ·cases p2
      exact absurd rfl (lQ _ _ _ _ q2 q1)
     ·exact m2 _ _ _ _ _ _ _ q2 p2
   ·rcases bT qF with ⟨q1,q2,_⟩ | ⟨q1,q2⟩
    ·subst q1; subst q2
     rcases bT iE with ⟨_,p2,_⟩ | ⟨p1,_⟩
     ·subst p2; exact jI
     ·exact absurd rfl p1
    ·rcases bT iE with ⟨p1,_,_⟩ | ⟨_,p2⟩
     ·exact absurd p1 q1
     ·exact (m3 j' row t p2 q2).mono e fun f b1 c1 ht=>⟨old b1 (lQ j' f b1 c1 (ht ▸ q2) q1) (bK b1 ⟨j',f,c1,ht ▸ q2⟩),fun _ ho=>ho⟩
  ·simp only [St.bn] at jZ
   rw [aD (Ne.symm cg)] at jZ
   exact (h.g.obj i gg r jZ h2).mono e (fun x hx=>old x (Qg i r x h2 cg hx) (h.g.bE ⟨i,r,h2,hx⟩)) (fun b o _ hi=>hi)
 ·rcases aq aX jZ with ⟨g3,e1⟩ | ⟨g3,g1⟩
  ·rcases aq aX h2 with ⟨g4,e2⟩ | ⟨g4,g2⟩
   ·omega
   ·rw [e1] at b1
    rcases jo x b1 with rfl | b1
    ·exact absurd rfl (Qg j' rj x g2 g4 b2)
    ·exact g3.trans (h.g.inj id j' _ _ x aX g2 b1 b2)
  ·rcases aq aX h2 with ⟨g4,e2⟩ | ⟨g4,g2⟩
   ·rw [e2] at b2
    rcases jo x b2 with rfl | b2
    ·exact absurd rfl (Qg i ri x g1 g3 b1)
    ·exact (h.g.inj i id _ _ x g1 aX b1 b2).trans g4.symm
   ·exact h.g.inj i j' ri rj x g1 g2 b1 b2
 ·exact h.b.bY e (fun k cs hk=>old _ (vC k cs hk) (h.cU (.inr ⟨k,cs,hk,rfl⟩))) (fun k cs o hk hi=>hi) (fun k cs hk hl=>live _ (h.cU (.inr ⟨k,cs,hk,rfl⟩)) hl)
 ·refine ⟨e,os,tp,ou,dx,fun x hx hn=>old x (fun e=>hn (.inl ⟨id,_,aX,by rw [e]; exact O4 (e ▸ hx)⟩)) hx,fun x hx ho=>?_,fun b o hi hb _=>hi⟩
  rcases ho with ho | ho
  ·exact .inl (live x hx ho)
  ·exact .inr ho
theorem lR {id:Nat} {r0 r1:RO} (aX:nth R.obj id=some r0) (hle:bQ r0 r1) (h:Ext R w R w'):Ext R w (R.reset id r1) w':=by
 refine ⟨fun _ _ h=>h,h.cell,fun i r hr=>?_,h.lp⟩
 by_cases ei:id=i
 ·subst ei
  rw [aX] at hr
  cases hr
  exact ⟨_,an aX,hle⟩
 ·exact ⟨r,by rw [af.reset,aD ei]; exact hr,bQ.refl r⟩
theorem zs {ts:List TR} {j:Nat} {t0 t1:TR} (hj:nth ts j=some t0) (hle:fN t0 t1):qt ts (au ts j t1):=fun i t hi=>by
 by_cases e:j=i
 ·subst e
  rw [hj] at hi
  cases hi
  exact ⟨t1,an hj,hle⟩
 ·exact ⟨t,by rw [aD e]; exact hi,fN.refl t⟩
theorem um (h:aQ E R w β s a) {t u:TypeId} {id j sz len:Nat} {y:AV} {ys:List AV} {cx cy:Value} {us:List Value}
  (eB:∀ {c:Value} {w':World},(Builtin.append_ #[t,u] o.type #[cx,cy]).run E.P w=.ok c w'→(execOp a.eval o).run E.P w=.ok (.value c) w')
  {elem esz eb:Nat} {z:AV} (yA:1≤eb) (hz:z.cells.length=esz) (lM:z.aN=true)
  {ie:TypeInfo} (f2:ie.size=esz) (f3:ie.bytes=eb) (f6:fk ie=some z)
  (h0:Rel R w (.gk id j sz len) cx) (hA:∀ zc:Value,ie.zero=some zc→Qe E.P w t u o.type elem ie zc cy (y :: ys).length us)
  (y0:fq esz (y :: ys)) (y1:aC R w (ar (y :: ys)) us) (y2:∀ v∈us,v.oneCell'=true) (y3:us.length=(y :: ys).length * esz)
  {rows:List (List AV)} (aX:nth s.G id=some (.gY rows esz elem)) (O6:j < rows.length) (r7:len=(rowOf rows j).length) (hb:((rowOf rows j).length+(y :: ys).length) * eb≤140737488355328) :
  bB E R w β s a o ((s.bn (au s.G id (.gY (au rows j (rowOf rows j++(y :: ys))) esz elem))).put o.dst (.v (.gk id j esz (len+(y :: ys).length)))):=by
 subst r7
 obtain ⟨zc,lD,BO⟩:=cI f6
 have hA:=hA zc lD
 obtain ⟨d1,d2⟩:=Rel.cells (BO R w) lM
 have mX:zc.cells.size=esz:=by rw [← hz,d1.length]; simp
 have lu:0 < (y :: ys).length:=by simp
 have hm:(rowOf rows j).length+(y :: ys).length≤140737488355328:=Nat.le_trans (Nat.le_mul_of_pos_right _ yA) hb
 obtain ⟨ro,aU⟩:∃ ro,nth R.obj id=some ro:=by
  have:=aT aX
  rw [← h.g.len] at this
  exact ⟨R.obj[id],by rw [aG]; exact List.getElem?_eq_getElem this⟩
 have bt:=h.g.obj id _ _ aX aU
 cases ro with
 | none=>exact bt.elim
 | aR=>exact bt.elim
 | bw _=>exact bt.elim
 | tok _ _ _ _=>exact bt.elim
 | aM ts=>
 obtain ⟨m1,m2,m3⟩:=bt
 obtain ⟨t0,O7⟩:∃ t0,nth ts j=some t0:=⟨ts[j],by rw [aG]; exact List.getElem?_eq_getElem (by omega)⟩
 have jI:nth rows j=some (rowOf rows j):=by
  have:nth rows j=some rows[j]:=by rw [aG]; exact List.getElem?_eq_getElem O6
  unfold rowOf
  rw [this]
 have Wy:=m3 j _ _ jI O7
 have qC:(rowOf rows j++(y :: ys)).length=(rowOf rows j).length+(y :: ys).length:=List.length_append
 generalize rowOf rows j=es at *
 -- where a new block has been made
 have fresh:∀ {xs:List Value} {old:Nat},(∀ b c,fN t0 (.tok (es.length+(y :: ys).length) b c))→fq esz es→aC R w (ar es) xs→(∀ v∈xs,v.oneCell'=true)→xs.length=es.length * esz →
   (Builtin.append_ #[t,u] o.type #[cx,cy]).run E.P w=.ok (.slice (some ⟨w.heap.size,0,none⟩) (es.length+(y :: ys).length) (grownCap w (es.length+(y :: ys).length) old elem)) (w.drew.alloc (.cells (xs.toArray++us.toArray++Builtin.zeroCells zc.cells (grownCap w (es.length+(y :: ys).length) old elem - (es.length+(y :: ys).length))) elem)) →
   bB E R w β s a o ((s.bn (au s.G id (.gY (au rows j (es++(y :: ys))) esz elem))).put o.dst (.v (.gk id j esz (es.length+(y :: ys).length)))):=by
  intro xs old hle B2 Qf sj vE ba
  have qe:=grownCap_ge w (es.length+(y :: ys).length) old elem
  have e:=lR (r1:=.aM (au ts j (.tok (es.length+(y :: ys).length) w.heap.size (grownCap w (es.length+(y :: ys).length) old elem)))) aU (zs O7 (hle _ _)) (show Ext R w R (w.drew.alloc (.cells (xs.toArray++us.toArray++Builtin.zeroCells zc.cells (grownCap w (es.length+(y :: ys).length) old elem - (es.length+(y :: ys).length))) elem)) from
   ⟨fun _ _ h=>h,fun b o hi=>bC (heap_alloc_old w.drew _ b (h.g.wf b o hi)) o,fun i r hr=>⟨r,hr,bQ.refl r⟩,.old fun b hb=>heap_alloc_old w.drew _ b hb⟩)
  obtain ⟨r1,r2⟩:=h.Jt (row':=es++(y :: ys)) aX aU O7 (.inl rfl) e (fun b _ hb=>heap_alloc_old w.drew _ b hb) (by simp) ⟨qC.symm,gK B2 y0,_,xs++us,heap_alloc_new w.drew _,qe,grownCap_le_maxLen w _ old elem (by unfold maxLen; omega),by
   simp only [Array.size_append,List.size_toArray,size_zeroCells,mX,vE,y3,← Nat.add_mul]
   congr 1
   omega,fun o hi=>by have:=h.g.wf _ _ hi; omega,by rw [b7]; exact (Qf.append y1).mono e,fB sj y2,by
   simp only [Array.toList_append]
   exact List.take_left' (by rw [List.length_append,vE,y3,Nat.add_mul])⟩ (fun h=>Nat.le_succ_of_le h) rfl rfl rfl
  refine ⟨_,_,_,_,β,eB ba,.inl rfl,r1.put o.dst ?_,by rw [aS]; exact r2⟩
  exact Rel.gk (an aU) ⟨_,an O7,Nat.le_refl _,fun _=>⟨rfl,.inl rfl,rfl⟩⟩ qe
 generalize hlen:es.length=len at h0
 cases h0 with
 | qq Hz hon=>
  have XX:es=[]:=List.eq_nil_of_length_eq_zero hlen
  subst XX
  simp only [List.length_nil] at hb
  have ba:=hA.nil lu (by omega) (by rw [f3]; rw [Nat.zero_add] at hb; omega)
  refine fresh (xs:=[]) (old:=0) (fun b c=>?_) (fun e he=>by simp at he) .nil (by simp) (by simp) (by simpa using ba)
  cases t0 with
  | aR=>simp only [fN]; simp
  | full _=>exact Wy.elim
  | tok f b1 c1=>
   have:=Wy.1
   simp only [fN,List.length_nil,List.length_cons] at *
   exact ⟨by omega,fun e=>by omega⟩
 | @gk _ _ _ _ cap b o' jm Hz cS eh=>
  rw [aU] at Hz
  cases Hz
  obtain ⟨t1,q1,q2⟩:=cS
  rw [O7] at q1
  cases q1
  subst hlen
  cases t0 with
  | aR=>exact q2.elim
  | full _=>exact Wy.elim
  | tok f b1 c1=>
  obtain ⟨g0,yp,cur,vs,g2,g3,g4,g5,g6,g7,g8,g9⟩:=Wy
  obtain ⟨rfl,mZ,rfl⟩:=q2.2 g0.symm
  subst g0
  have g1:=yp.g
  have DC:vs.length=es.length * esz:=by rw [← g7.length,bD g1]
  have gj:∀ j v,vs[j]?=some v→cur[j]?=some v:=fun j v hj=>by
   rw [← g9,List.getElem?_take] at hj
   split at hj
   ·rw [← Array.getElem?_toList]; exact hj
   ·cases hj
  by_cases cQ:es.length+(y :: ys).length≤cap
  ·have mY:o'=0:=by
    rcases mZ with mZ | mZ
    ·exact mZ
    ·rw [List.length_cons] at cQ; omega
   subst mY
   have hle:(es.length+(y :: ys).length) * esz≤cap * esz:=Nat.mul_le_mul_right _ cQ
   have ba:=hA.Js lu b es.length cap cur g2 cQ (by rw [f2,y3,← Nat.add_mul,g5]; exact hle)
   rw [f2] at ba
   have gi:cur.toList.length=cap * esz:=by rw [show cur.toList.length=cur.size from Array.length_toList,g5]
   have e:=lR (r1:=.aM (au ts j (.tok (es.length+(y :: ys).length) b cap))) aU (zs O7 ⟨by omega,fun _=>⟨rfl,rfl⟩⟩) (fy (R:=R) (w:=w) g6 (cur.toList.take (es.length * esz)++us++cur.toList.drop (es.length * esz+us.length)).toArray)
   obtain ⟨r1,r2⟩:=h.Jt (row':=es++(y :: ys)) aX aU O7 (.inr ⟨_,_,rfl⟩) e (fun b' cg _=>setRow_other w _ b' _ cg) (by simp) ⟨qC.symm,gK yp y0,_,vs++us,setRow_heap w _ _ _ _ (0,0) g2,cQ,g4,by
    rw [List.size_toArray]
    simp only [List.length_append,List.length_take,List.length_drop,y3,gi]
    rw [Nat.add_mul] at hle
    omega,g6,by rw [b7]; exact (g7.append y1).mono e,fB g8 y2,by
    rw [List.toList_toArray,g9]
    exact List.take_left' (by rw [List.length_append,DC,y3,Nat.add_mul])⟩ (fun h=>h) rfl rfl rfl
   refine ⟨_,_,_,_,β,eB ba,.inl rfl,r1.put o.dst ?_,by rw [aS]; exact r2⟩
   exact Rel.gk (an aU) ⟨_,an O7,Nat.le_refl _,fun _=>⟨rfl,.inl rfl,rfl⟩⟩ cQ
  ·have ba:=hA.grow lu ⟨b,o',none⟩ es.length cap vs (by rw [DC,f2]) (fun j v hj=>by
    have DD:=(List.getElem?_eq_some_iff.1 hj).1
    have mY:o'=0:=by
     rcases mZ with mZ | mZ
     ·exact mZ
     ·have:es.length=0:=by omega
      rw [DC,this] at DD
      omega
    subst mY
    rw [bZ,Nat.zero_add,cell_of_row w b j cur elem (0,0) g2]
    exact gj j v hj) (by omega) (by omega) (growslice_fits (by omega) (by rw [f3]; exact hb))
   exact fresh (xs:=vs) (old:=cap) (fun b c=>⟨by omega,fun e=>by rw [List.length_cons] at e; omega⟩) yp g7 g8 DC ba
end rows
theorem lS (h:aQ E R w β s a) {t u:TypeId} {id j:Nat} {es:List AV} {y:AV} {ys:List AV} {cx cy:Value} {us:List Value}
  (eB:∀ {c:Value} {w':World},(Builtin.append_ #[t,u] o.type #[cx,cy]).run E.P w=.ok c w'→(execOp a.eval o).run E.P w=.ok (.value c) w')
  {elem esz eb:Nat} {z:AV} (yA:1≤eb) (hz:z.cells.length=esz) (lM:z.aN=true)
  {ie:TypeInfo} (f2:ie.size=esz) (f3:ie.bytes=eb) (f6:fk ie=some z)
  (h0:Rel R w (.list (.aM id j) esz es) cx) (hA:∀ zc:Value,ie.zero=some zc→Qe E.P w t u o.type elem ie zc cy (y :: ys).length us)
  (y0:fq esz (y :: ys)) (y1:aC R w (ar (y :: ys)) us) (y2:∀ v∈us,v.oneCell'=true) (y3:us.length=(y :: ys).length * esz)
  {fs:List Nat} (fP:nth s.G id=some (.aM fs esz elem)) (tu:nth fs j=some es.length) (hb:(es.length+(y :: ys).length) * eb≤140737488355328) :
  bB E R w β s a o ((s.bn (au s.G id (.aM (au fs j (es.length+(y :: ys).length)) esz elem))).put o.dst (.v (.list (.aM id j) esz (es++(y :: ys))))):=by
 obtain ⟨zc,lD,BO⟩:=cI f6
 have hA:=hA zc lD
 obtain ⟨d1,d2⟩:=Rel.cells (BO R w) lM
 have mX:zc.cells.size=esz:=by rw [← hz,d1.length]; simp
 have lu:0 < (y :: ys).length:=by simp
 have hm:es.length+(y :: ys).length≤140737488355328:=Nat.le_trans (Nat.le_mul_of_pos_right _ yA) hb
 obtain ⟨x0,xs,x1,x2,x3,x4⟩:=fA (esz:=esz) h0 (.inr rfl)
 obtain ⟨ro,aU⟩:∃ ro,nth R.obj id=some ro:=by
  cases h0 with
  | kH q _=>exact ⟨_,q⟩
  | list _ _ _ hk=>obtain ⟨ro,q,_⟩:=hk; exact ⟨ro,q⟩
 have bt:=h.g.obj id _ _ fP aU
 cases ro with
 | none=>exact bt.elim
 | aR=>exact bt.elim
 | bw _=>exact bt.elim
 | tok _ _ _ _=>exact bt.elim
 | aM ts=>
 have bt:vl R w esz elem fs ts:=bt
 have O6:j < ts.length:=by rw [bt.1]; exact aT tu
 obtain ⟨tr,ht⟩:∃ tr,nth ts j=some tr:=⟨ts[j],by rw [aG]; exact List.getElem?_eq_getElem O6⟩
 have mR:=bt.2.2 j _ _ tu ht
 have B7:∀ i f b c,nth ts i=some (.tok f b c)→b < w.heap.size:=fun i f b c hi=>h.g.bE ⟨id,_,aU,i,f,c,hi⟩
 -- where a new block has been made
 have fresh:∀ {old:Nat},(∀ b c,fN tr (.tok (es.length+(y :: ys).length) b c)) →
   (Builtin.append_ #[t,u] o.type #[cx,cy]).run E.P w=.ok (.slice (some ⟨w.heap.size,0,none⟩) (es.length+(y :: ys).length) (grownCap w (es.length+(y :: ys).length) old elem)) (w.drew.alloc (.cells (xs.toArray++us.toArray++Builtin.zeroCells zc.cells (grownCap w (es.length+(y :: ys).length) old elem - (es.length+(y :: ys).length))) elem)) →
   bB E R w β s a o ((s.bn (au s.G id (.aM (au fs j (es.length+(y :: ys).length)) esz elem))).put o.dst (.v (.list (.aM id j) esz (es++(y :: ys))))):=by
  intro old hle ba
  have qe:=grownCap_ge w (es.length+(y :: ys).length) old elem
  have hcm:=grownCap_le_maxLen w (es.length+(y :: ys).length) old elem (by unfold maxLen; omega)
  have O8:(xs.toArray++us.toArray++Builtin.zeroCells zc.cells (grownCap w (es.length+(y :: ys).length) old elem - (es.length+(y :: ys).length))).size=grownCap w (es.length+(y :: ys).length) old elem * esz:=by
   simp only [Array.size_append,List.size_toArray,size_zeroCells,mX,x3,y3,← Nat.add_mul]
   congr 1
   omega
  generalize iF:xs.toArray++us.toArray++Builtin.zeroCells zc.cells (grownCap w (es.length+(y :: ys).length) old elem - (es.length+(y :: ys).length))=cur at ba O8
  have o1:=One.drew w (.cells cur elem)
  obtain ⟨r1,r2⟩:=h.P7 o1 (n:=(es.length+(y :: ys).length) * esz) (r1:=.aM (au ts j (.tok (es.length+(y :: ys).length) w.heap.size (grownCap w (es.length+(y :: ys).length) old elem)))) (go:=.aM (au fs j (es.length+(y :: ys).length)) esz elem) fP aU
   (qt.set ht (hle _ _)) (fun b hb=>F5 hb) (vl.set bt ⟨rfl,cur,o1.new,qe,hcm,O8,fun o' mY hi=>by
    rcases hi with hi | ⟨_,hi⟩
    ·have:=h.g.wf _ _ hi
     omega
    ·omega⟩ (fun i f c hi=>absurd (B7 i f _ c hi) (Nat.lt_irrefl _)) (fun i f b c _ hi=>⟨o1.old b (B7 i f b c hi),fun o' mY=>by
     rcases mY with mY | ⟨mY,_⟩
     ·exact mY
     ·have:=B7 i f b c hi
      omega⟩))
  have e:=r2.ext
  refine ⟨_,_,_,_,β,eB ba,.inl rfl,r1.put o.dst ?_,by rw [aS]; exact r2⟩
  refine Rel.list (vD (vs:=xs++us) (gK x0 y0) (by rw [b7]; exact (x1.mono e).append (y1.mono e)) (fB x2 y2) (fun j v hj=>?_) (fun j hj=>.inr ⟨rfl,by rw [List.length_append,x3,y3,← Nat.add_mul] at hj; exact hj⟩)) (by simp) qe ⟨_,an aU,_,an ht,Nat.le_refl _,fun _=>⟨rfl,.inl rfl,rfl⟩⟩
  rw [cell_of_row _ _ j _ _ _ o1.new,← iF]
  have bK:=(List.getElem?_eq_some_iff.1 hj).1
  rw [← Array.getElem?_toList]
  simp only [Array.toList_append,List.append_assoc]
  rw [← List.append_assoc,List.getElem?_append_left bK]
  exact hj
 rcases x4 with ⟨rfl,rfl,ad,rfl,hd⟩ | ⟨b,o',cap,rfl,Ut,xk,tv,xE⟩
 ·obtain rfl:ad=none:=by
   rcases hd with hd | hd
   ·exact hd
   ·cases hd
  simp only [List.length_nil] at hb mR
  have ba:=hA.nil lu (by simp only [List.length_nil] at hm; omega) (by rw [f3]; rw [Nat.zero_add] at hb; omega)
  cases tr with
  | aR=>exact fresh (old:=0) (fun b c=>by simp only [fN,List.length_cons]; omega) (by simpa using ba)
  | full f'=>
   have mR:f'=0:=mR
   subst mR
   exact fresh (old:=0) (fun b c=>by simp only [fN,List.length_cons]; omega) (by simpa using ba)
  | tok f' g c=>
   obtain ⟨mR,_⟩:=mR
   subst mR
   exact fresh (old:=0) (fun b c=>by simp only [fN,List.length_cons,List.length_nil]; omega) (by simpa using ba)
 ·obtain ⟨jm,Hz,tj⟩:=xk
  rw [aU] at Hz
  cases Hz
  obtain ⟨t',q3,tj⟩:=tj
  rw [ht] at q3
  cases q3
  cases tr with
  | aR=>exact tj.elim
  | full f'=>
   have hf:f'=es.length:=mR
   subst hf
   have eh:=tj.2 rfl
   subst eh
   have ba:=hA.grow lu ⟨b,o',none⟩ es.length es.length xs (by rw [x3,f2]) tv (by omega) (by omega) (growslice_fits (by omega) (by rw [f3]; exact hb))
   exact fresh (fun b c=>by simp only [fN]; omega) ba
  | tok f' g c=>
   obtain ⟨rfl,cur,iF,k1,k3,k4,k5⟩:=mR
   obtain ⟨rfl,mZ,rfl⟩:=tj.2 rfl
   by_cases cQ:es.length+(y :: ys).length≤cap
   ·have XW:o'=0:=by
     rcases mZ with mZ | mZ
     ·exact mZ
     ·rw [List.length_cons] at cQ; omega
    subst XW
    have hle:(es.length+(y :: ys).length) * esz≤cap * esz:=Nat.mul_le_mul_right _ cQ
    have ba:=hA.Js lu b es.length cap cur iF cQ (by rw [f2,y3,← Nat.add_mul,k4]; exact hle)
    rw [f2] at ba
    generalize Ju:(cur.toList.take (es.length * esz)++us++cur.toList.drop (es.length * esz+us.length)).toArray=cur2 at ba
    have gi:cur.toList.length=cap * esz:=by rw [show cur.toList.length=cur.size from Array.length_toList,k4]
    have hll:es.length * esz≤cap * esz:=Nat.mul_le_mul_right _ k1
    have yB:cur2.size=cap * esz:=by
     rw [← Ju,List.size_toArray]
     simp only [List.length_append,List.length_take,List.length_drop,y3,gi]
     rw [Nat.add_mul] at hle
     omega
    have vz:∀ o',R.I b o'→cur2[o']?=cur[o']?:=fun o' hi=>by
     have ho:o' < es.length * esz:=Nat.lt_of_not_le fun hle=>k5 o' hle hi
     rw [← Ju,List.append_assoc]
     simp only [List.getElem?_toArray]
     rw [List.getElem?_append_left (by rw [List.length_take]; omega),List.getElem?_take,if_pos ho,Array.getElem?_toList]
    have new:(w.setRow b cur2).heap[b]?=some (.cells cur2 elem (0,0)):=setRow_heap w b cur cur2 elem (0,0) iF
    obtain ⟨r0,r1,r2⟩:=h.MD (cur2:=cur2) (n:=(es.length+(y :: ys).length) * esz) (r1:=.aM (au ts j (.tok (es.length+(y :: ys).length) b cap))) (go:=.aM (au fs j (es.length+(y :: ys).length)) esz elem) fP aU ⟨j,_,_,ht⟩
     (qt.set ht ⟨by omega,fun e=>by omega⟩) (fun b' jC=>(F5 jC).elim (fun e=>by rw [e]; exact ⟨j,_,_,ht⟩) (fun x=>x)) iF vz (fun _=>vl.set bt ⟨rfl,cur2,new,cQ,k3,yB,fun o' mY hi=>by
      rcases hi with hi | ⟨_,hi⟩
      ·exact k5 o' (Nat.le_trans (Nat.mul_le_mul_right _ (Nat.le_add_right _ _)) mY) hi
      ·omega⟩ (fun i f c hi=>bt.2.1 i j _ _ _ _ _ hi ht) (fun i f b' c cg hi=>by
       have FZ:b'≠b:=fun e=>by subst e; exact cg (bt.2.1 i j _ _ _ _ _ hi ht)
       refine ⟨setRow_other w b b' cur2 FZ,fun o' mY=>?_⟩
       rcases mY with mY | ⟨mY,_⟩
       ·exact mY
       ·exact absurd mY FZ))
    refine ⟨_,_,_,_,β,eB ba,.inl rfl,r1.put o.dst ?_,by rw [aS]; exact r2⟩
    have Wz:cur.toList.take (es.length * esz)=xs:=by
     have AK:xs.length=es.length * esz:=x3
     apply List.ext_getElem?
     intro j
     rw [List.getElem?_take]
     split
     ·rename_i hj
      have DD:j < xs.length:=by omega
      have oM:=tv j xs[j] (List.getElem?_eq_getElem DD)
      rw [bZ,Nat.zero_add,cell_of_row w b j cur elem (0,0) iF] at oM
      rw [Array.getElem?_toList,oM,List.getElem?_eq_getElem DD]
     ·rw [List.getElem?_eq_none (by omega)]
    refine Rel.list (vD (vs:=xs++us) (gK x0 y0) (by rw [b7]; exact (x1.mono r0).append (y1.mono r0)) (fB x2 y2) (fun j v hj=>?_) (fun j hj=>.inr ⟨rfl,by rw [List.length_append,x3,y3,← Nat.add_mul] at hj; exact hj⟩)) (by simp) cQ ⟨_,an aU,_,an ht,Nat.le_refl _,fun _=>⟨rfl,.inl rfl,rfl⟩⟩
    rw [cell_of_row _ _ j _ _ _ new,← Ju,Wz]
    simp only [List.getElem?_toArray]
    rw [List.getElem?_append_left (List.getElem?_eq_some_iff.1 hj).1]
    exact hj
   ·have ba:=hA.grow lu ⟨b,o',none⟩ es.length cap xs (by rw [x3,f2]) tv (by omega) (by omega) (growslice_fits (by omega) (by rw [f3]; exact hb))
    exact fresh (fun b c=>⟨by omega,fun e=>by omega⟩) ba
theorem uo (h:aQ E R w β s a) {t u:TypeId} {id j:Nat} {es:List AV} {y:AV} {ys:List AV} {cx cy:Value} {us:List Value}
  (eB:∀ {c:Value} {w':World},(Builtin.append_ #[t,u] o.type #[cx,cy]).run E.P w=.ok c w'→(execOp a.eval o).run E.P w=.ok (.value c) w')
  {elem esz eb:Nat} {z:AV} (yA:1≤eb) (hz:z.cells.length=esz) (lM:z.aN=true)
  {ie:TypeInfo} (f2:ie.size=esz) (f3:ie.bytes=eb) (f6:fk ie=some z)
  (h0:Rel R w (.list (.aM id j) esz es) cx) (hA:∀ zc:Value,ie.zero=some zc→Qe E.P w t u o.type elem ie zc cy (y :: ys).length us)
  (y0:fq esz (y :: ys)) (y1:aC R w (ar (y :: ys)) us) (y2:∀ v∈us,v.oneCell'=true) (y3:us.length=(y :: ys).length * esz)
  {fs:List Nat} (fP:nth s.G id=some (.aM fs esz elem)) (tu:Mm fs j es.length=true) (hb:(es.length+(y :: ys).length) * eb≤140737488355328) :
  bB E R w β s a o ((s.bn (au s.G id (.aM (Hi fs j (es.length+(y :: ys).length)) esz elem))).put o.dst (.v (.list (.aM id j) esz (es++(y :: ys))))):=by
 unfold Mm at tu
 rw [Bool.or_eq_true,decide_eq_true_eq,Bool.and_eq_true] at tu
 rcases tu with tu | ⟨hj,hl⟩
 ·have cg:Nat.beq j fs.length=false:=by
   cases hb:Nat.beq j fs.length with
   | false=>rfl
   | true=>
    have:=Nat.eq_of_beq_eq_true hb
    have:=aT tu
    omega
  unfold Hi
  rw [cg]
  exact lS h eB yA hz lM f2 f3 f6 h0 hA y0 y1 y2 y3 fP tu hb
 ·have vF:Hi fs j (es.length+(y :: ys).length)=fs++[es.length+(y :: ys).length]:=by
   unfold Hi
   rw [hj]
   rfl
  rw [vF]
  have hj:=Nat.eq_of_beq_eq_true hj
  have hl:=Nat.eq_of_beq_eq_true hl
  subst hj
  have bK:=aT fP
  rw [← h.g.len] at bK
  obtain ⟨ro,aU⟩:∃ ro,nth R.obj id=some ro:=⟨R.obj[id],by rw [aG]; exact List.getElem?_eq_getElem bK⟩
  obtain ⟨ts,rfl,z1,z2,z3⟩:=h.AJ fP (nfs:=[0]) (nts:=[.aR]) rfl (fun j f t h1 h2=>by
   cases j with
   | zero=>simp only [nth] at h1 h2; cases h1; cases h2; exact rfl
   | succ j=>simp [nth] at h1) (fun j f b c hj=>by
   cases j with
   | zero=>simp only [nth] at hj; cases hj
   | succ j=>simp [nth] at hj) aU
  have key:=lS z2 eB yA hz lM f2 f3 f6 (h0.mono z3.ext) hA y0 (y1.mono z3.ext) y2 y3 (fs:=fs++[0]) (an fP) (by rw [hl]; exact dE _ _) hb
  have e1:au (fs++[0]) fs.length (es.length+(y :: ys).length)=fs++[es.length+(y :: ys).length]:=by
   rw [dw,List.set_append_right _ _ (Nat.le_refl _),Nat.sub_self]
   rfl
  have e2:∀ x y:GO,au (au s.G id x) id y=au s.G id y:=fun x y=>by rw [dw,dw,dw,List.set_set]
  rw [e1] at key
  refine bB.step rfl z3 ?_
  have e3:((s.bn (au s.G id (.aM (fs++[0]) esz elem))).bn (au (s.bn (au s.G id (.aM (fs++[0]) esz elem))).G id (.aM (fs++[es.length+(y :: ys).length]) esz elem)))=s.bn (au s.G id (.aM (fs++[es.length+(y :: ys).length]) esz elem)):=by
   simp only [St.bn,e2]
  rw [e3] at key
  exact key
theorem iG (h:aQ E R w β s a) {t u:TypeId} {x:AV} {ys:List AV} {cx cy:Value} {us:List Value}
  (eB:∀ {c:Value} {w':World},(Builtin.append_ #[t,u] o.type #[cx,cy]).run E.P w=.ok c w'→(execOp a.eval o).run E.P w=.ok (.value c) w')
  {i:TI} {elem esz eb:Nat} {ag:Bool} {z:AV} (hk:i.k=.sl elem esz ag eb (some z)) (yA:1≤eb) (hz:z.cells.length=esz) (lM:z.aN=true)
  {ie:TypeInfo} (f1:E.P.info? elem=some ie) (f2:ie.size=esz) (f3:ie.bytes=eb) (f6:fk ie=some z)
  (h0:Rel R w x cx) (hA:∀ zc:Value,ie.zero=some zc→Qe E.P w t u o.type elem ie zc cy ys.length us)
  (y0:fq esz ys) (y1:aC R w (ar ys) us) (y2:∀ v∈us,v.oneCell'=true) (y3:us.length=ys.length * esz)
  {v:AV} {G':List GO} (ha:dH s.G elem esz eb x ys=some (true,v,G')) :
  bB E R w β s a o ((s.bn G').put o.dst (.v v)):=by
 obtain ⟨zc,lD,BO⟩:=cI f6
 have XY:=hA
 have hA:=hA zc lD
 obtain ⟨d1,d2⟩:=Rel.cells (BO R w) lM
 have mX:zc.cells.size=esz:=by rw [← hz,d1.length]; simp
 unfold dH at ha
 split at ha
 ·-- nothing is appended
  rename_i k sz es
  have Uo:us=[]:=List.eq_nil_of_length_eq_zero (by simpa using y3)
  have hG:G'=s.G∧Rel R w v cx:=by
   split at ha
   ·injection ha with ha; injection ha with _ ha; injection ha with p q
    subst p; subst q
    exact ⟨rfl,h0⟩
   ·injection ha with ha; injection ha with _ ha; injection ha with p q
    subst p; subst q
    exact ⟨rfl,h0⟩
  obtain ⟨rfl,hvr⟩:=hG
  refine ap (s:=s) h (c:=cx) (eB ?_) hvr
  cases h0 with
  | iC=>exact hA.zero rfl _ _ _ (Nat.le_refl 0)
  | hZ=>exact hA.zero rfl _ _ _ (Nat.le_refl 0)
  | lj=>exact hA.zero rfl _ _ _ (Nat.le_refl 0)
  | jY=>exact hA.zero rfl _ _ _ (Nat.le_refl 0)
  | kH=>exact hA.zero rfl _ _ _ (Nat.le_refl 0)
  | list hr hlen eh _=>exact hA.zero rfl _ _ _ eh
 ·-- something is appended
  rename_i k sz es y ys hA
  have lu:0 < (y :: ys).length:=by simp
  -- what is shown where a new block has been made
  have grown:∀ {n old:Nat} {xs:List Value} {es':List AV},(es'.length=n)→fq esz es'→aC R w (ar es') xs→(∀ v∈xs,v.oneCell'=true)→xs.length=n * esz →
    (n+(y :: ys).length) * eb≤140737488355328→n+(y :: ys).length≤maxLen→∀ (R':af) (G2:List GO) (id:Nat),
    aQ E R' (w.drew.alloc (.cells (xs.toArray++us.toArray++Builtin.zeroCells zc.cells (grownCap w (n+(y :: ys).length) old elem - (n+(y :: ys).length))) elem)) β (s.bn G2) a →
    Step R w β s.boxes R' (w.drew.alloc (.cells (xs.toArray++us.toArray++Builtin.zeroCells zc.cells (grownCap w (n+(y :: ys).length) old elem - (n+(y :: ys).length))) elem)) β s.boxes →
    (∀ j,j < (n+(y :: ys).length) * esz→R'.I w.heap.size j)→nth R'.obj id=some (.tok (n+(y :: ys).length) w.heap.size (grownCap w (n+(y :: ys).length) old elem) 0) →
    (Builtin.append_ #[t,u] o.type #[cx,cy]).run E.P w=.ok (.slice (some ⟨w.heap.size,0,none⟩) (n+(y :: ys).length) (grownCap w (n+(y :: ys).length) old elem)) (w.drew.alloc (.cells (xs.toArray++us.toArray++Builtin.zeroCells zc.cells (grownCap w (n+(y :: ys).length) old elem - (n+(y :: ys).length))) elem)) →
    bB E R w β s a o ((s.bn G2).put o.dst (.v (.list (.own id) esz (es'++(y :: ys))))):=by
   intro n old xs es' Av Qh Qf sj vE _ _ R' G2 id bt Gd hI aX ba
   refine ⟨_,_,_,R',β,eB ba,.inl rfl,bt.put o.dst ?_,by rw [aS]; exact Gd⟩
   have e:=Gd.ext
   refine Rel.list (vD (vs:=xs++us) (gK Qh y0) (by rw [b7]; exact (Qf.mono e).append (y1.mono e)) (fB sj y2) (fun j v hj=>?_) (fun j hj=>hI j (by rw [List.length_append,vE,y3,← Nat.add_mul] at hj; exact hj))) (by simp [Av]) (grownCap_ge w _ _ _) ⟨_,aX,Nat.le_refl _,fun _=>⟨rfl,.inl rfl,rfl⟩⟩
   have mq:(w.drew.alloc (.cells (xs.toArray++us.toArray++Builtin.zeroCells zc.cells (grownCap w (n+(y :: ys).length) old elem - (n+(y :: ys).length))) elem)).heap[w.heap.size]?=some (.cells (xs.toArray++us.toArray++Builtin.zeroCells zc.cells (grownCap w (n+(y :: ys).length) old elem - (n+(y :: ys).length))) elem (0,0)):=heap_alloc_new w.drew _
   rw [cell_of_row _ _ j _ _ _ mq]
   have bK:=(List.getElem?_eq_some_iff.1 hj).1
   rw [← Array.getElem?_toList]
   simp only [Array.toList_append,List.append_assoc]
   rw [← List.append_assoc,List.getElem?_append_left bK]
   exact hj
  have Jv:∀ {n old:Nat} {xs:List Value},xs.length=n * esz→n+(y :: ys).length≤maxLen→(xs.toArray++us.toArray++Builtin.zeroCells zc.cells (grownCap w (n+(y :: ys).length) old elem - (n+(y :: ys).length))).size=grownCap w (n+(y :: ys).length) old elem * esz:=by
   intro n old xs vE _
   have qe:=grownCap_ge w (n+(y :: ys).length) old elem
   simp only [Array.size_append,List.size_toArray,size_zeroCells,mX,vE,y3,← Nat.add_mul]
   congr 1
   omega
  have fresh:∀ {n old:Nat} {xs:List Value} {es':List AV},(es'.length=n)→fq esz es'→aC R w (ar es') xs→(∀ v∈xs,v.oneCell'=true)→xs.length=n * esz →
    (n+(y :: ys).length) * eb≤140737488355328→n+(y :: ys).length≤maxLen →
    (Builtin.append_ #[t,u] o.type #[cx,cy]).run E.P w=.ok (.slice (some ⟨w.heap.size,0,none⟩) (n+(y :: ys).length) (grownCap w (n+(y :: ys).length) old elem)) (w.drew.alloc (.cells (xs.toArray++us.toArray++Builtin.zeroCells zc.cells (grownCap w (n+(y :: ys).length) old elem - (n+(y :: ys).length))) elem)) →
    bB E R w β s a o ((s.bn (s.G++[.tok (n+(y :: ys).length) esz elem])).put o.dst (.v (.list (.own s.G.length) esz (es'++(y :: ys))))):=by
   intro n old xs es' Av Qh Qf sj vE hb hm ba
   obtain ⟨r1,r2⟩:=h.P5 (cur:=xs.toArray++us.toArray++Builtin.zeroCells zc.cells (grownCap w (n+(y :: ys).length) old elem - (n+(y :: ys).length))) (elem:=elem) (grownCap_ge w (n+(y :: ys).length) old elem) (grownCap_le_maxLen w _ old elem hm) (Jv vE hm)
   exact grown Av Qh Qf sj vE hb hm _ _ _ r1 r2 (fun j hj=>.inr ⟨rfl,hj⟩) (by rw [← h.g.len]; exact dE _ _) ba
  have Qi:∀ {n:Nat},(n+(y :: ys).length) * eb≤140737488355328→n+(y :: ys).length≤140737488355328:=fun {n} hb=>Nat.le_trans (Nat.le_mul_of_pos_right _ yA) hb
  split at ha
  ·-- nil
   injection ha with ha; injection ha with hc ha; injection ha with p q
   subst p; subst q
   have hb:=of_decide_eq_true hc
   cases h0 with
   | list _ _ _ D7=>exact D7.elim
   | iC=>
    simp only [List.length_nil] at hb
    have hm:=Qi hb
    refine fresh (n:=0) (old:=0) (xs:=[]) (es':=[]) rfl (fun e he=>by simp at he) .nil (by simp) (by simp) hb (by unfold maxLen; omega) ?_
    have ba:=hA.nil lu (by omega) (by rw [f3]; rw [Nat.zero_add] at hb; omega)
    simpa using ba
  ·-- as long as its capacity
   split at ha
   ·rename_i dx
    have dx:=Nat.eq_of_beq_eq_true dx
    subst dx
    injection ha with ha; injection ha with hc ha; injection ha with p q
    subst p; subst q
    have hb:=of_decide_eq_true hc
    have hm:=Qi hb
    obtain ⟨x0,xs,x1,x2,x3,x4⟩:=fA (esz:=sz) h0 (.inr rfl)
    rcases x4 with ⟨rfl,rfl,ad,rfl,hd⟩ | ⟨b,o',cap,rfl,Ut,xk,tv,_⟩
    ·rcases hd with rfl | hd
     ·cases h0
     ·cases hd
    ·have eh:cap=es.length:=xk
     subst eh
     refine fresh (n:=es.length) (old:=es.length) (xs:=xs) (es':=es) rfl x0 x1 x2 x3 hb (by unfold maxLen; omega) ?_
     exact hA.grow lu ⟨b,o',none⟩ es.length es.length xs (by rw [x3,f2]) tv (by omega) (by omega) (growslice_fits (by omega) (by rw [f3]; exact hb))
   ·cases ha
  ·-- of a token
   rename_i id
   split at ha
   ·rename_i f a6 e' fP
    split at ha
    ·rename_i bH
     simp only [Bool.and_eq_true] at bH
     obtain ⟨⟨q1,q2⟩,q3⟩:=bH
     have q1:=Nat.eq_of_beq_eq_true q1
     have q2:=Nat.eq_of_beq_eq_true q2
     have q3:=Nat.eq_of_beq_eq_true q3
     subst q1; subst q2; subst q3
     injection ha with ha; injection ha with hc ha; injection ha with p q
     subst p; subst q
     simp only [Bool.and_eq_true] at hc
     have tu:=of_decide_eq_true hc.1
     have hb:=of_decide_eq_true hc.2
     subst tu
     have hm:=Qi hb
     obtain ⟨x0,xs,x1,x2,x3,x4⟩:=fA (esz:=sz) h0 (.inr rfl)
     rcases x4 with ⟨rfl,rfl,ad,rfl,hd⟩ | ⟨b,o',cap,rfl,Ut,xk,tv,xE⟩
     ·obtain rfl:ad=none:=by
       rcases hd with hd | hd
       ·exact hd
       ·cases hd
      cases h0 with
      | @jY _ _ ro aU hon=>
      have bt:=h.g.obj id _ _ fP aU
      cases ro with
      | none=>exact bt.elim
      | bw _=>exact bt.elim
      | tok f' g c k0=>
       obtain ⟨rfl,_⟩:=bt
       simp [li] at hon
      | aM _=>exact bt.elim
      | aR=>
       simp only [List.length_nil] at hb
       have ba:=hA.nil lu (by omega) (by rw [f3]; rw [Nat.zero_add] at hb; omega)
       have dx:=Jv (n:=0) (old:=0) (xs:=[]) (by simp) (by unfold maxLen; omega)
       obtain ⟨r1,r2⟩:=h.Jo (cur:=[].toArray++us.toArray++Builtin.zeroCells zc.cells (grownCap w (0+(y :: ys).length) 0 e' - (0+(y :: ys).length))) (elem:=e') (n:=0+(y :: ys).length) (cap:=grownCap w (0+(y :: ys).length) 0 e') fP aU (fun b c=>by simp only [bQ]; omega) (grownCap_ge w _ _ _) (grownCap_le_maxLen w _ _ _ (by unfold maxLen; omega)) dx
       exact grown (n:=0) (es':=[]) rfl (fun e he=>by simp at he) .nil (by simp) (by simp) hb (by unfold maxLen; omega) _ _ _ r1 r2 (fun j hj=>.inr ⟨rfl,hj⟩) (an aU) (by simpa using ba)
     ·obtain ⟨ro,aU,tj⟩:=xk
      have bt:=h.g.obj id _ _ fP aU
      cases ro with
      | none=>exact bt.elim
      | aR=>exact tj.elim
      | bw _=>exact bt.elim
      | aM _=>exact bt.elim
      | tok f' g c k0=>
       obtain ⟨rfl,cur,iF,k1,k3,k4,k5⟩:=bt
       obtain ⟨rfl,cS,rfl⟩:=tj.2 rfl
       by_cases cQ:es.length+(y :: ys).length≤cap
       ·have cS:=cS.resolve_right (by rw [List.length_cons] at cQ; omega)
        subst cS
        have hle:(es.length+(y :: ys).length) * sz≤cap * sz:=Nat.mul_le_mul_right _ cQ
        have ba:=hA.room lu b o' es.length cap cur iF cQ (by rw [f2,Nat.add_assoc,y3,← Nat.add_mul,k4]; omega)
        rw [f2] at ba
        obtain ⟨r0,r1,r2⟩:=h.MB (news:=us) (n:=es.length+(y :: ys).length) fP aU (by omega) cQ iF k4 k3 (by rw [y3,← Nat.add_mul])
        refine ⟨_,_,_,_,β,eB ba,.inl rfl,r1.put o.dst ?_,by rw [aS]; exact r2⟩
        have mq:=setRow_heap w b cur (cur.toList.take (o'+es.length * sz)++us++cur.toList.drop (o'+es.length * sz+us.length)).toArray e' (0,0) iF
        have AK:xs.length=es.length * sz:=x3
        have gi:cur.toList.length=o'+cap * sz:=by rw [show cur.toList.length=cur.size from Array.length_toList,k4]
        have B2:es.length * sz≤cap * sz:=Nat.mul_le_mul_right _ (by omega)
        have gj:∀ j v,(xs++us)[j]?=some v→(w.setRow b (cur.toList.take (o'+es.length * sz)++us++cur.toList.drop (o'+es.length * sz+us.length)).toArray).cell? ⟨b,o'+j,none⟩=some v:=fun j v hj=>by
         rw [cell_of_row _ _ (o'+j) _ _ _ mq]
         simp only [List.getElem?_toArray]
         by_cases hjx:j < xs.length
         ·rw [List.getElem?_append_left hjx] at hj
          have oM:=tv j v hj
          rw [bZ,cell_of_row w b (o'+j) cur e' (0,0) iF] at oM
          rw [List.append_assoc,List.getElem?_append_left (by rw [List.length_take]; omega),List.getElem?_take,if_pos (by omega),Array.getElem?_toList]
          exact oM
         ·have bK:=(List.getElem?_eq_some_iff.1 hj).1
          rw [List.length_append] at bK
          rw [List.getElem?_append_right (by omega)] at hj
          have ht:(cur.toList.take (o'+es.length * sz)).length=o'+es.length * sz:=by rw [List.length_take]; omega
          rw [List.append_assoc,List.getElem?_append_right (by rw [ht]; omega),ht,List.getElem?_append_left (by omega),show o'+j - (o'+es.length * sz)=j - xs.length by omega]
          exact hj
        refine Rel.list (jS (gK x0 y0) (dZ.make (vs:=xs++us) (by rw [b7]; exact (x1.mono r0).append (y1.mono r0)) (fB x2 y2) gj (fun j hj=>.inr ⟨rfl,?_⟩))) (by simp) cQ ⟨_,an aU,Nat.le_refl _,fun _=>⟨rfl,.inl rfl,rfl⟩⟩
        rw [b7,List.length_append,x1.length,y1.length,AK,y3,← Nat.add_mul] at hj
        omega
       ·have ba:=hA.grow lu ⟨b,o',none⟩ es.length cap xs (by rw [x3,f2]) tv (by omega) (by omega) (growslice_fits (by omega) (by rw [f3]; exact hb))
        obtain ⟨r1,r2⟩:=h.Jo (cur:=xs.toArray++us.toArray++Builtin.zeroCells zc.cells (grownCap w (es.length+(y :: ys).length) cap e' - (es.length+(y :: ys).length))) (elem:=e') (n:=es.length+(y :: ys).length) (cap:=grownCap w (es.length+(y :: ys).length) cap e') fP aU (fun b c=>⟨by omega,fun e=>by omega⟩) (grownCap_ge w _ _ _) (grownCap_le_maxLen w _ _ _ (by unfold maxLen; omega)) (Jv x3 (by unfold maxLen; omega))
        exact grown rfl x0 x1 x2 x3 hb (by unfold maxLen; omega) _ _ _ r1 r2 (fun j hj=>.inr ⟨rfl,hj⟩) (an aU) ba
    ·cases ha
   ·cases ha
  ·-- of a member of a family
   rename_i id j
   split at ha
   ·rename_i fs a6 e' fP
    split at ha
    ·rename_i bH
     simp only [Bool.and_eq_true] at bH
     obtain ⟨⟨q1,q2⟩,q3⟩:=bH
     have q1:=Nat.eq_of_beq_eq_true q1
     have q2:=Nat.eq_of_beq_eq_true q2
     have q3:=Nat.eq_of_beq_eq_true q3
     subst q1; subst q2; subst q3
     injection ha with ha; injection ha with hc ha; injection ha with p q
     subst p; subst q
     simp only [Bool.and_eq_true,decide_eq_true_eq] at hc
     exact uo h eB yA hz lM f2 f3 f6 h0 (fun Uu Jw=>XY Uu Jw) y0 y1 y2 y3 fP hc.1 hc.2
    ·cases ha
   ·cases ha
  ·cases ha
 ·-- a slice that grows, and nothing
  injection ha with ha; injection ha with _ ha; injection ha with p q
  subst p; subst q
  refine ap (s:=s) h (c:=cx) (eB ?_) h0
  cases h0 with
  | gT=>exact hA.zero rfl _ _ _ (Nat.le_refl 0)
  | cT _ _ eh=>exact hA.zero rfl _ _ _ eh
 ·-- a slice that grows
  rename_i id f' off sz len y ys hA
  split at ha
  ·rename_i es a6 e' fP
   split at ha
   ·rename_i bH
    simp only [Bool.and_eq_true] at bH
    obtain ⟨⟨q1,q2⟩,q3⟩:=bH
    have q1:=Nat.eq_of_beq_eq_true q1
    have q2:=Nat.eq_of_beq_eq_true q2
    have q3:=Nat.eq_of_beq_eq_true q3
    subst q1; subst q2; subst q3
    injection ha with ha; injection ha with hc ha; injection ha with p q
    subst p; subst q
    simp only [Bool.and_eq_true,decide_eq_true_eq] at hc
    exact jr h eB yA hz lM f2 f3 f6 h0 (fun Uu Jw=>XY Uu Jw) y0.g y1 y2 y3 fP hc.1.1.1 hc.1.1.2 hc.1.2 hc.2
   ·cases ha
  ·cases ha
 ·-- a row, and nothing
  injection ha with ha; injection ha with _ ha; injection ha with p q
  subst p; subst q
  refine ap (s:=s) h (c:=cx) (eB ?_) h0
  cases h0 with
  | qq=>exact hA.zero rfl _ _ _ (Nat.le_refl 0)
  | gk _ _ eh=>exact hA.zero rfl _ _ _ eh
 ·-- a row
  rename_i id j' sz len y ys hA
  split at ha
  ·rename_i rows a6 e' fP
   split at ha
   ·rename_i bH
    simp only [Bool.and_eq_true] at bH
    obtain ⟨⟨q1,q2⟩,q3⟩:=bH
    have q1:=Nat.eq_of_beq_eq_true q1
    have q2:=Nat.eq_of_beq_eq_true q2
    have q3:=Nat.eq_of_beq_eq_true q3
    subst q1; subst q2; subst q3
    injection ha with ha; injection ha with hc ha; injection ha with p q
    subst p; subst q
    simp only [Bool.and_eq_true,decide_eq_true_eq] at hc
    exact um h eB yA hz lM f2 f3 f6 h0 (fun Uu Jw=>XY Uu Jw) y0 y1 y2 y3 fP hc.1.1 hc.1.2 hc.2
   ·cases ha
  ·cases ha
 ·cases ha
theorem B8 (h:aQ E R w β s a) {args:Array Operand} {t:TypeId} (ho:o.op=.call { callee:=.builtin .append,args:=args,argTypes:=#[t,t] }) {x:AV} {k2:LK} {iu:Nat} {ys:List AV}
  (hl:kN E s.ae args.toList=some [x,.list k2 iu ys]) {i:TI} (hi:E.ti t=some i) {elem esz eb:Nat} {ag:Bool} {z:AV} (hk:i.k=.sl elem esz ag eb (some z)) (yB:ys=[]∨iu=esz) (abN:1≤esz) (yA:1≤eb) (hz:z.cells.length=esz) (lM:z.aN=true)
  {v:AV} {G':List GO} (ha:dH s.G elem esz eb x ys=some (true,v,G')) :
  bB E R w β s a o ((s.bn G').put o.dst (.v v)):=by
 have hr:=eO h hl
 generalize hv:args.toList.map a.eval=vs at hr
 have hx:=cZ (E:=E) (w:=w) ho vs hv
 cases hr with
 | @cons _ cx _ _ h0 h1=>
 cases h1 with
 | @cons _ cy _ _ h1 h2=>
 cases h2
 obtain ⟨fx,u,e1,e2,e3,e4,e5,e6⟩:=bR E hi
 have yx:=hk
 rw [hk] at e5
 obtain ⟨ie,ue,rfl,f1,f2,f3,f4,f5,f6⟩:=cE e5
 have mS:(⟨[cx,cy]⟩:Array Value)=#[cx,cy]:=rfl
 obtain ⟨y0,us,y1,y2,y3,y4⟩:=fA (esz:=esz) h1 yB
 refine iG h (cx:=cx) (cy:=cy) (t:=t) (u:=t) (fun hh=>?_) yx yA hz lM f1 f2 f3 f6 h0 (fun zc lD=>?_) y0 y1 y2 y3 ha
 ·rw [hx]
  simp only [builtin,mS,Sem.run_bind,hh,Result.andThen_ok,Sem.run_pure]
 ·rcases y4 with ⟨rfl,rfl,ad,rfl,_⟩ | ⟨TA,oy,vG,rfl,Uv,_,kb,yE⟩
  ·refine ⟨fun _ base len cap BN=>?_,fun hh=>absurd hh (by simp),fun hh=>absurd hh (by simp),fun hh=>absurd hh (by simp)⟩
   cases ad <;> simp [Builtin.append_,run_underlying e2,run_sizeOf w f1,Builtin.lenOf,Builtin.firstCells,BN,storeCells,loadCells,loadCellsFrom] <;>
    cases base <;> simp [storeCells]
  ·refine ⟨fun hn base len cap BN=>?_,fun hh AL AM=>run_append_nil (P:=E.P) w t o.type elem ie zc e2 f1 lD _ _ vG us (by rw [y3,f2]) kb hh AL AM,fun _ b sLen ej sC vH HA hg AL AM=>run_append_grow (P:=E.P) w t o.type elem ie zc e2 f1 lD b sLen ej sC vH HA _ _ vG us (by rw [y3,f2]) kb hg AL AM,fun _ g k sLen ej cur hg cQ lO=>fT (P:=E.P) w t o.type elem ie e2 f1 g k sLen ej cur hg _ _ vG us (by rw [y3,f2]) kb y2 cQ lO⟩
   rw [hn]
   simp [Builtin.append_,run_underlying e2,run_sizeOf w f1,Builtin.lenOf,Builtin.firstCells,BN,storeCells,loadCells,loadCellsFrom]
   cases base <;> simp [storeCells]
theorem tw {sz:Nat} {es:List AV} (h:da sz es) (hc:ay es=true):fq sz es:=by
 induction es with
 | nil=>intro e he; cases he
 | cons x es ih=>
  have mO:(x.closed&&ay es)=true:=hc
  rw [Bool.and_eq_true] at mO
  intro e he
  rcases List.mem_cons.1 he with rfl | he
  ·exact ⟨(h e List.mem_cons_self).1,(h e List.mem_cons_self).2,mO.1⟩
  ·exact ih (fun e he=>h e (List.mem_cons_of_mem _ he)) mO.2 e he
theorem HB (h:aQ E R w β s a) {id f sz len:Nat} {es:List AV} {el:TypeId} {c:Value} (aX:nth s.G id=some (.cK es sz el)) (hf:f=es.length) (hl:len=es.length) (gi:ay es=true) (hc:Rel R w (.cT id f 0 sz len) c) :
  fq sz es∧∃ vs,aC R w (ar es) vs∧(∀ v∈vs,v.oneCell'=true)∧vs.length=es.length * sz ∧
   ((es=[]∧vs=[]∧∃ ad,c=.slice ad 0 0)∨∃ b o' cap,c=.slice (some ⟨b,o',none⟩) es.length cap∧es.length≤cap∧(∀ j v,vs[j]?=some v→w.cell? ((⟨b,o',none⟩:Addr).add j)=some v)):=by
 cases hc with
 | gT h1 h2=>
  have he:es=[]:=List.eq_nil_of_length_eq_zero hl.symm
  subst he
  exact ⟨(fun e he=>by cases he),[],.nil,by simp,by simp,.inl ⟨rfl,rfl,_,rfl⟩⟩
 | @cT _ _ _ _ _ cap b1 o1 ro h1 h2 h3=>
  have hn:ro≠.aR:=fun e=>by subst e; exact h2.elim
  obtain ⟨b,c',cur,vs,rfl,g0,g2,g3,g4,g5,g6,g7,g8,g9⟩:=kS h.g aX h1 hn
  have g1:fq sz es:=tw g0 gi
  obtain ⟨rfl,k2,k3⟩:=h2.2 hf
  refine ⟨g1,vs,g7,g8,by rw [← g7.length,cG g1],.inr ⟨_,_,_,by rw [hl],by omega,fun j v hj=>?_⟩⟩
  rw [bZ]
  have O6:j < vs.length:=(List.getElem?_eq_some_iff.1 hj).1
  have ho:o1=0:=by
   rcases k3 with k3 | k3
   ·rw [k3,Nat.zero_mul]
   ·have:es.length=0:=by omega
    rw [← g7.length,cG g1,this,Nat.zero_mul] at O6
    omega
  subst ho
  rw [Nat.zero_add,cell_of_row w b1 j cur el (0,0) g2]
  rw [← g9,List.getElem?_take] at hj
  split at hj
  ·rw [← Array.getElem?_toList]; exact hj
  ·cases hj
theorem uq (h:aQ E R w β s a) {args:Array Operand} {t:TypeId} (ho:o.op=.call { callee:=.builtin .append,args:=args,argTypes:=#[t,t] }) {x:AV} {id f sz len:Nat} {ys:List AV} {el:TypeId}
  (hl:kN E s.ae args.toList=some [x,.cT id f 0 sz len]) (aX:nth s.G id=some (.cK ys sz el)) (hf:f=ys.length) (hlen:len=ys.length) (gi:ay ys=true)
  {i:TI} (hi:E.ti t=some i) {elem esz eb:Nat} {ag:Bool} {z:AV} (hk:i.k=.sl elem esz ag eb (some z)) (yB:sz=esz) (yA:1≤eb) (hz:z.cells.length=esz) (lM:z.aN=true)
  {v:AV} {G':List GO} (ha:dH s.G elem esz eb x ys=some (true,v,G')) :
  bB E R w β s a o ((s.bn G').put o.dst (.v v)):=by
 have hr:=eO h hl
 generalize hv:args.toList.map a.eval=vs at hr
 have hx:=cZ (E:=E) (w:=w) ho vs hv
 cases hr with
 | @cons _ cx _ _ h0 h1=>
 cases h1 with
 | @cons _ cy _ _ h1 h2=>
 cases h2
 obtain ⟨fx,u,e1,e2,e3,e4,e5,e6⟩:=bR E hi
 have yx:=hk
 rw [hk] at e5
 obtain ⟨ie,ue,rfl,f1,f2,f3,f4,f5,f6⟩:=cE e5
 have mS:(⟨[cx,cy]⟩:Array Value)=#[cx,cy]:=rfl
 subst yB
 obtain ⟨y0,us,y1,y2,y3,y4⟩:=HB h aX hf hlen gi h1
 refine iG h (cx:=cx) (cy:=cy) (t:=t) (u:=t) (fun hh=>?_) yx yA hz lM f1 f2 f3 f6 h0 (fun zc lD=>?_) y0 y1 y2 y3 ha
 ·rw [hx]
  simp only [builtin,mS,Sem.run_bind,hh,Result.andThen_ok,Sem.run_pure]
 ·rcases y4 with ⟨rfl,rfl,ad,rfl⟩ | ⟨TA,oy,vG,rfl,Uv,kb⟩
  ·refine ⟨fun _ base len cap BN=>?_,fun hh=>absurd hh (by simp),fun hh=>absurd hh (by simp),fun hh=>absurd hh (by simp)⟩
   cases ad <;> simp [Builtin.append_,run_underlying e2,run_sizeOf w f1,Builtin.lenOf,Builtin.firstCells,BN,storeCells,loadCells,loadCellsFrom] <;>
    cases base <;> simp [storeCells]
  ·refine ⟨fun hn base len cap BN=>?_,fun hh AL AM=>run_append_nil (P:=E.P) w t o.type elem ie zc e2 f1 lD _ _ vG us (by rw [y3,f2]) kb hh AL AM,fun _ b sLen ej sC vH HA hg AL AM=>run_append_grow (P:=E.P) w t o.type elem ie zc e2 f1 lD b sLen ej sC vH HA _ _ vG us (by rw [y3,f2]) kb hg AL AM,fun _ g k sLen ej cur hg cQ lO=>fT (P:=E.P) w t o.type elem ie e2 f1 g k sLen ej cur hg _ _ vG us (by rw [y3,f2]) kb y2 cQ lO⟩
   rw [hn]
   simp [Builtin.append_,run_underlying e2,run_sizeOf w f1,Builtin.lenOf,Builtin.firstCells,BN,storeCells,loadCells,loadCellsFrom]
   cases base <;> simp [storeCells]
theorem vI:∀ (bs:List UInt8),aC R w (ar (bs.map qn)) (Lib.strCells ⟨⟨bs⟩⟩)
 | []=>.nil
 | b :: bs=>.cons (Rel.int .u8 b.toNat) (vI bs)
theorem ur (h:aQ E R w β s a) {args:Array Operand} {t u:TypeId} (ho:o.op=.call { callee:=.builtin .append,args:=args,argTypes:=#[t,u] }) {x:AV} {bs:List UInt8}
  (hl:kN E s.ae args.toList=some [x,.str bs]) {i j:TI} (hi:E.ti t=some i) (hj:E.ti u=some j) {elem eb:Nat} {ag:Bool} {z:AV} (hk:i.k=.sl elem 1 ag eb (some z)) (TB:j.k=.str) (yA:1≤eb) (hz:z.cells.length=1) (lM:z.aN=true)
  {v:AV} {G':List GO} (ha:dH s.G elem 1 eb x (bs.map qn)=some (true,v,G')) :
  bB E R w β s a o ((s.bn G').put o.dst (.v v)):=by
 have hr:=eO h hl
 generalize hv:args.toList.map a.eval=vs at hr
 have hx:=cZ (E:=E) (w:=w) ho vs hv
 cases hr with
 | @cons _ cx _ _ h0 h1=>
 cases h1 with
 | @cons _ cy _ _ h1 h2=>
 cases h2
 obtain ⟨fx,ud,e1,e2,e3,e4,e5,e6⟩:=bR E hi
 obtain ⟨Uw,ud',g1,g2,g3,g4,g5,g6⟩:=bR E hj
 rw [TB] at g5
 have:=j7 g5
 subst this
 have yx:=hk
 rw [hk] at e5
 obtain ⟨ie,ue,rfl,f1,f2,f3,f4,f5,f6⟩:=cE e5
 cases h1
 have dx:(⟨⟨bs⟩⟩:ByteArray).size=bs.length:=rfl
 have hlen:(bs.map qn).length=bs.length:=List.length_map _
 have mS:(⟨[cx,.string ⟨⟨bs⟩⟩]⟩:Array Value)=#[cx,.string ⟨⟨bs⟩⟩]:=rfl
 have gi:(Lib.strCells ⟨⟨bs⟩⟩).length=bs.length:=Lib.strCells_length _
 refine iG h (cx:=cx) (cy:=.string ⟨⟨bs⟩⟩) (us:=Lib.strCells ⟨⟨bs⟩⟩) (t:=t) (u:=u) (fun hh=>?_) yx yA hz lM f1 f2 f3 f6 h0 (fun zc lD=>?_) ?_ (vI bs) (Lib.strCells_oneCell _) (by rw [gi,hlen,Nat.mul_one]) ha
 ·rw [hx]
  simp only [builtin,mS,Sem.run_bind,hh,Result.andThen_ok,Sem.run_pure]
 ·rw [hlen]
  refine ⟨fun hn base len cap BN=>?_,fun hh AL AM=>?_,fun _ b sLen ej sC vH HA hg AL AM=>Lib.run_append_grow_string (P:=E.P) w t u o.type elem ie zc e2 g2 f1 lD b sLen ej sC vH HA ⟨⟨bs⟩⟩ hg AL AM,fun _ g k sLen ej cur hg cQ lO=>?_⟩
  ·have hb:bs=[]:=List.eq_nil_of_length_eq_zero hn
   subst hb
   have hz0:(⟨⟨[]⟩⟩:ByteArray).size=0:=rfl
   simp [hz0,Builtin.append_,run_underlying e2,run_underlying g2,run_sizeOf w f1,Builtin.lenOf,Builtin.firstCells,BN,storeCells]
   cases base <;> simp [storeCells]
  ·rw [run_append_nil_string (P:=E.P) w t u o.type elem ie zc e2 g2 f1 lD ⟨⟨bs⟩⟩ hh AL AM]
   simp [Lib.strCells,dx]
  ·have:=lP (P:=E.P) w t u o.type elem ie e2 g2 f1 f2 g k sLen ej cur hg ⟨⟨bs⟩⟩ cQ (by rw [f2,Nat.mul_one,gi] at lO; exact lO)
   rw [this,f2,Nat.mul_one,gi]
   rfl
 ·intro e he
  obtain ⟨b,_,rfl⟩:=List.mem_map.1 he
  exact ⟨rfl,rfl,rfl⟩
def af.vJ (R:af) (id:Nat) (ro:RO):af:=⟨R.I,au R.obj id .none++[ro]⟩
theorem lT {R:af} {id i:Nat} {r0 ro r:RO} (aX:nth R.obj id=some r0) (h:nth (R.vJ id ro).obj i=some r):(i=id∧r=.none)∨(i≠id∧nth R.obj i=some r)∨(i=R.obj.length∧r=ro):=by
 rcases ai h with h | ⟨h1,h2⟩
 ·rcases aq aX h with h | h
  ·exact .inl h
  ·exact .inr (.inl h)
 ·refine .inr (.inr ⟨?_,h2⟩)
  rw [h1,dw,List.length_set]
theorem HC {id f b c k:Nat} (ro:RO) (aX:nth R.obj id=some (.tok f b c k)):Ext R w (R.vJ id ro) w:=
 ⟨fun _ _ h=>h,fun _ _ _=>rfl,fun i r hr=>by
  by_cases e:id=i
  ·subst e
   rw [aX] at hr
   cases hr
   exact ⟨.none,bq (an aX),trivial⟩
  ·exact ⟨r,bq (by rw [aD e]; exact hr),bQ.refl r⟩,dU.refl w⟩
theorem Jx (h:aQ E R w β s a) {f:FuncId} {s':St} (hs:DY E f s o=some (true,s')):bB E R w β s a o s':=by
 unfold DY at hs
 split at hs
 ·rename_i t x lo d ho hd
  split at hs
  ·split at hs
   ·rename_i i id sz es k n pw hx vH
    split at hs
    ·rename_i elem esz ag mQ z f0 a6 ety hk fP
     split at hs
     ·rename_i bH
      simp only [Bool.and_eq_true] at bH
      have q1:=Nat.eq_of_beq_eq_true bH.1
      have q2:=(Nat.eq_of_beq_eq_true bH.2).symm
      subst q1; subst q2
      injection hs with hs; injection hs with hc hs
      subst hs
      simp only [Bool.and_eq_true,decide_eq_true_eq] at hc
      obtain ⟨sa,cg,Av,D6⟩:=hc
      subst sa
      obtain ⟨p,rfl⟩:∃ p:Nat,n=(p:Int):=⟨n.toNat,by omega⟩
      rw [Int.toNat_natCast]
      have hp:p≤es.length:=by omega
      obtain ⟨fx,u,e1,e2,e3,e4,e5,e6⟩:=bR E pw
      rw [hk] at e5
      obtain ⟨ie,ue,rfl,f1,f2,f3,f4,f5,f6⟩:=cE e5
      have rx:=aJ h x
      rw [hx] at rx
      have cP:Rel R w (.list (.own id) sz es) (a.eval x):=rx
      generalize ea:a.eval x=xv at cP
      cases cP with
      | jY _ _=>simp at cg
      | @list _ _ _ b o' len cap hr hlen eh D7=>
       subst hlen
       obtain ⟨ro,aU,tj⟩:=D7
       have bt:=h.g.obj id _ _ fP aU
       cases ro with
       | none=>exact bt.elim
       | aR=>exact tj.elim
       | bw _=>exact bt.elim
       | aM _=>exact bt.elim
       | tok f' g c k0=>
        obtain ⟨rfl,cur,iF,k1,k3,k4,k5⟩:=bt
        obtain ⟨rfl,cS,rfl⟩:=tj.2 rfl
        have cS:=cS.resolve_right (by omega)
        subst cS
        have hl:kG E s.ae (some lo)=some (some (.v (.int k (p:Int)))):=by simp [kG,vH]
        have hb:Ap es.length (some (.v (.int k (p:Int)))) none=some (true,p,es.length):=by
         have d:decide ((0:Int)≤(p:Int)∧(p:Int)≤(es.length:Int))=true:=decide_eq_true (by omega)
         simp only [Ap,vj,d,Int.toNat_natCast,Bool.and_self]
        obtain ⟨r1,_,_⟩:=dm (E:=E) true eh (qA h hl) (qA h (show kG E s.ae none=some none from rfl)) hb
        have ba:(execOp a.eval o).run E.P w=.ok (.value (.slice (if cap=p then some ⟨b,o',none⟩ else some ⟨b,o'+p * sz,none⟩) (es.length - p) (cap - p))) w:=by
         simp only [execOp,ho,Instr.sliceAt,Sem.run_bind,run_underlying e2,Result.andThen_ok,Instr.slice,ea,r1,run_sizeOf w f1,f2,Sem.run_pure,Option.map_some,Option.map_none,bZ] at *
        have e:=HC (R:=R) (w:=w) (.tok (es.length - p) b (cap - p) (o'+p * sz)) aU
        have hmul:(cap - p) * sz+p * sz=cap * sz:=by rw [← Nat.add_mul]; congr 1; omega
        have Z5:(es.length - p) * sz+p * sz=es.length * sz:=by rw [← Nat.add_mul]; congr 1; omega
        have live:∀ b',Live (R.vJ id (.tok (es.length - p) b (cap - p) (o'+p * sz))) b'→Live R b':=fun b' hl=>by
         obtain ⟨i,r,h1,h2⟩:=hl
         rcases lT aU h1 with ⟨_,rfl⟩ | ⟨_,h1⟩ | ⟨_,rfl⟩
         ·exact h2.elim
         ·exact ⟨i,r,h1,h2⟩
         ·exact ⟨id,_,aU,h2⟩
        have hG:aQ E (R.vJ id (.tok (es.length - p) b (cap - p) (o'+p * sz))) w β (s.bn (au s.G id .dead++[.tok (es.length - p) sz ety])) a:=by
         refine ⟨⟨by simp [St.bn,af.vJ,dw,h.g.len],fun i gg r h1 h2=>?_,fun i j ri rj b' h1 h2 b1 b2=>?_,h.g.wf,fun g cs hg=>(h.g.ck g cs hg).mono e,h.g.lo⟩,h.b.bY e (fun _ _ _=>rfl) (fun _ _ _ _ hi=>hi) (fun _ _ _ hl=>live _ hl),h.t.mono e,h.n,h.d.mono e⟩
         ·simp only [St.bn] at h1
          rcases lT aU h2 with ⟨rfl,rfl⟩ | ⟨En,h2⟩ | ⟨h3,rfl⟩
          ·rw [bq (an fP)] at h1
           cases h1
           trivial
          ·rcases ai h1 with h1 | ⟨h3,_⟩
           ·rw [aD (Ne.symm En)] at h1
            exact (h.g.obj i gg r h1 h2).mono e (fun _ _=>rfl) (fun _ _ _ hi=>hi)
           ·have:=aT h2
            rw [h3,dw,List.length_set,h.g.len] at this
            omega
          ·rcases ai h1 with h1 | ⟨_,rfl⟩
           ·have:=aT h1
            rw [h3,dw,List.length_set,h.g.len] at this
            omega
           ·exact ⟨rfl,cur,iF,by omega,by omega,by omega,fun o2 ho2 hi=>k5 o2 (by omega) hi⟩
         ·rcases lT aU h1 with ⟨_,rfl⟩ | ⟨m1,h1⟩ | ⟨m1,rfl⟩
          ·exact b1.elim
          ·rcases lT aU h2 with ⟨_,rfl⟩ | ⟨m2,h2⟩ | ⟨m2,rfl⟩
           ·exact b2.elim
           ·exact h.g.inj i j ri rj b' h1 h2 b1 b2
           ·exact absurd (h.g.inj i id ri _ b' h1 aU b1 b2) m1
          ·rcases lT aU h2 with ⟨_,rfl⟩ | ⟨m2,h2⟩ | ⟨m2,rfl⟩
           ·exact b2.elim
           ·exact absurd (h.g.inj j id rj _ b' h2 aU b2 b1) m2
           ·omega
        have gy:Step R w β s.boxes (R.vJ id (.tok (es.length - p) b (cap - p) (o'+p * sz))) w β s.boxes:=by
         refine ⟨e,rfl,rfl,rfl,Nat.le_refl _,fun _ _ _=>rfl,fun b' _ ho=>?_,fun _ _ h _ _=>h⟩
         rcases ho with ho | ho
         ·exact .inl (live b' ho)
         ·exact .inr ho
        have mq:nth (R.vJ id (.tok (es.length - p) b (cap - p) (o'+p * sz))).obj s.G.length=some (.tok (es.length - p) b (cap - p) (o'+p * sz)):=by
         have:=dE (au R.obj id .none) (RO.tok (es.length - p) b (cap - p) (o'+p * sz))
         rw [dw,List.length_set,h.g.len,← dw] at this
         exact this
        refine ⟨_,_,w,_,β,ba,.inl rfl,?_,by rw [aS]; exact gy⟩
        rw [hd]
        refine hG.put (some d) (x:=.v (.list (.own s.G.length) sz (es.drop p))) ?_
        by_cases Mz:cap=p
        ·rw [if_pos Mz]
         have he:es.drop p=[]:=List.eq_nil_of_length_eq_zero (by rw [List.length_drop]; omega)
         exact Rel.list (by rw [he]; exact .nil) (by rw [List.length_drop]) (by omega) ⟨_,mq,Nat.le_refl _,fun _=>⟨rfl,.inr (by omega),rfl⟩⟩
        ·rw [if_neg Mz]
         exact Rel.list ((sk p hr).mono e) (by rw [List.length_drop]) (by omega) ⟨_,mq,Nat.le_refl _,fun _=>⟨rfl,.inl rfl,rfl⟩⟩
     ·cases hs
    ·cases hs
   ·cases hs
  ·cases hs
 ·cases hs
end ops
end Go.Am
namespace Go.Am
open Go
section
variable {E:Env} {R R':af} {w w':World} {β:Nat→Nat} {s:St} {a:Act} {o:Oper}
theorem aQ.Qj (h:aQ E R w β s a) {id sz:Nat} {e:TypeId} {rows:List (List AV)} (aX:nth s.G id=some (.gY rows sz e)) (n:Nat) {ro:RO} (aU:nth R.obj id=some ro) :
  ∃ ts,ro=.aM ts∧ts.length=rows.length∧aQ E (R.reset id (.aM (ts++List.replicate n .aR))) w β (s.bn (au s.G id (.gY (rows++List.replicate n []) sz e))) a∧Step R w β s.boxes (R.reset id (.aM (ts++List.replicate n .aR))) w β s.boxes:=by
 have bt:=h.g.obj id _ _ aX aU
 cases ro with
 | none=>exact bt.elim
 | aR=>exact bt.elim
 | bw _=>exact bt.elim
 | tok _ _ _ _=>exact bt.elim
 | aM ts=>
 obtain ⟨q1,q2,q3⟩:=bt
 have nu:∀ j f b c,nth (List.replicate n TR.aR) j≠some (.tok f b c):=fun j f b c hj=>by
  rw [aG] at hj
  have:=List.eq_of_mem_replicate (List.mem_of_getElem? hj)
  cases this
 have jo:∀ b,RO.has (.aM (ts++List.replicate n .aR)) b→RO.has (.aM ts) b:=fun b ⟨j,f,c,hj⟩=>by
  rcases aO hj with hj | ⟨i,_,hi⟩
  ·exact ⟨j,f,c,hj⟩
  ·exact absurd hi (nu i f b c)
 have ext:Ext R w (R.reset id (.aM (ts++List.replicate n .aR))) w:=lR aU (fun j t hj=>⟨t,jq hj,fN.refl t⟩) (Ext.refl R w)
 have live:∀ b,Live (R.reset id (.aM (ts++List.replicate n .aR))) b→Live R b:=fun b ⟨i,r,h1,h2⟩=>by
  rcases aq aU h1 with ⟨_,rfl⟩ | ⟨_,h1⟩
  ·exact ⟨id,_,aU,jo b h2⟩
  ·exact ⟨i,r,h1,h2⟩
 refine ⟨ts,rfl,q1,⟨⟨by simp [St.bn,af.reset,h.g.len],fun i g r h1 h2=>?_,fun i j ri rj b h1 h2 b1 b2=>?_,h.g.wf,fun g cs hg=>(h.g.ck g cs hg).mono ext,h.g.lo⟩,h.b.bY ext (fun _ _ _=>rfl) (fun _ _ _ _ h=>h) (fun _ _ _ hl=>live _ hl),h.t.mono ext,h.n,h.d.mono ext⟩,?_⟩
 ·rcases aq aU h2 with ⟨rfl,rfl⟩ | ⟨cg,h2⟩
  ·simp only [St.bn] at h1
   rw [an aX] at h1
   cases h1
   refine ⟨by simp [q1],fun i j f b c f' c' hi hj=>?_,fun j row t hf ht=>?_⟩
   ·rcases aO hi with hi | ⟨_,_,hi⟩
    ·rcases aO hj with hj | ⟨_,_,hj⟩
     ·exact q2 i j _ _ _ _ _ hi hj
     ·exact absurd hj (nu _ _ _ _)
    ·exact absurd hi (nu _ _ _ _)
   ·rcases aO hf with sa | ⟨k,hk,sa⟩
    ·rcases aO ht with ht | ⟨k',gm,ht⟩
     ·exact (q3 j row t sa ht).mono ext fun _ _ _ _=>⟨rfl,fun _ h=>h⟩
     ·have:=aT sa
      omega
    ·rcases aO ht with ht | ⟨k',gm,ht⟩
     ·have:=aT ht
      omega
     ·rw [aG] at ht sa
      rw [List.eq_of_mem_replicate (List.mem_of_getElem? ht),List.eq_of_mem_replicate (List.mem_of_getElem? sa)]
      exact rfl
  ·simp only [St.bn] at h1
   rw [aD (Ne.symm cg)] at h1
   exact (h.g.obj i g r h1 h2).mono ext (fun _ _=>rfl) (fun _ _ _ h=>h)
 ·rcases aq aU h1 with ⟨g3,e1⟩ | ⟨g3,g1⟩
  ·rcases aq aU h2 with ⟨g4,e2⟩ | ⟨g4,g2⟩
   ·omega
   ·rw [e1] at b1
    exact g3.trans (h.g.inj id j _ _ b aU g2 (jo b b1) b2)
  ·rcases aq aU h2 with ⟨g4,e2⟩ | ⟨g4,g2⟩
   ·rw [e2] at b2
    exact (h.g.inj i id _ _ b g1 aU b1 (jo b b2)).trans g4.symm
   ·exact h.g.inj i j ri rj b g1 g2 b1 b2
 ·refine ⟨ext,rfl,rfl,rfl,Nat.le_refl _,fun _ _ _=>rfl,fun b _ ho=>?_,fun _ _ h _ _=>h⟩
  rcases ho with ho | ho
  ·exact .inl (live b ho)
  ·exact .inr ho
theorem aQ.Ge (h:aQ E R w β s a) {id fK sz:Nat} {el:TypeId} {es:List AV} {rows:List (List AV)} (hg:nth s.G id=some (.cK es sz el)) (hm:nth s.G fK=some (.gY rows sz el)) {ro:RO} {ts:List TR} (aU:nth R.obj id=some ro) (Gb:nth R.obj fK=some (.aM ts))
  {t:TR} (hle:bQ ro .none) (ht:zg R w sz el es t) (hh:∀ f x c,t=.tok f x c→ro.has x) :
  aQ E ((R.reset id .none).reset fK (.aM (ts++[t]))) w β (s.bn (au (au s.G id .dead) fK (.gY (rows++[es]) sz el))) a∧Step R w β s.boxes ((R.reset id .none).reset fK (.aM (ts++[t]))) w β s.boxes:=by
 have cg:id≠fK:=fun e=>by
  subst e
  rw [hg] at hm
  cases hm
 have HD:nth (R.reset id .none).obj fK=some (.aM ts):=by rw [af.reset,aD cg]; exact Gb
 have Mt:nth (au s.G id .dead) fK=some (.gY rows sz el):=by rw [aD cg]; exact hm
 obtain ⟨q1,q2,q3⟩:=h.g.obj fK _ _ hm Gb
 have ext:Ext R w ((R.reset id .none).reset fK (.aM (ts++[t]))) w:=lR HD (fun j t hj=>⟨t,jq hj,fN.refl t⟩) (Ext.refl (R.reset id .none) w) |> fun e=>(lR aU hle (Ext.refl R w)).trans e
 -- whose block a block is
 have jo:∀ x,RO.has (.aM (ts++[t])) x→RO.has (.aM ts) x∨ro.has x:=fun x ⟨j,f,c,hj⟩=>by
  rcases aO hj with hj | ⟨i,_,hi⟩
  ·exact .inl ⟨j,f,c,hj⟩
  ·cases i with
   | zero=>cases hi; exact .inr (hh _ _ _ rfl)
   | succ i=>cases hi
 have B9:∀ i r x,nth ((R.reset id .none).reset fK (.aM (ts++[t]))).obj i=some r→r.has x→(i=fK∧RO.has (.aM ts) x)∨(i=fK∧ro.has x)∨(i≠fK∧i≠id∧nth R.obj i=some r):=fun i r x h1 h2=>by
  rcases aq HD h1 with ⟨rfl,rfl⟩ | ⟨k1,h1⟩
  ·rcases jo x h2 with h2 | h2
   ·exact .inl ⟨rfl,h2⟩
   ·exact .inr (.inl ⟨rfl,h2⟩)
  ·rcases aq aU h1 with ⟨rfl,rfl⟩ | ⟨k2,h1⟩
   ·exact h2.elim
   ·exact .inr (.inr ⟨k1,k2,h1⟩)
 have live:∀ x,Live ((R.reset id .none).reset fK (.aM (ts++[t]))) x→Live R x:=fun x ⟨i,r,h1,h2⟩=>by
  rcases B9 i r x h1 h2 with ⟨_,k⟩ | ⟨_,k⟩ | ⟨_,_,k⟩
  ·exact ⟨fK,_,Gb,k⟩
  ·exact ⟨id,_,aU,k⟩
  ·exact ⟨i,r,k,h2⟩
 refine ⟨⟨⟨by simp [St.bn,af.reset,h.g.len],fun i g r h1 h2=>?_,fun i j ri rj x h1 h2 b1 b2=>?_,h.g.wf,fun g cs hg=>(h.g.ck g cs hg).mono ext,h.g.lo⟩,h.b.bY ext (fun _ _ _=>rfl) (fun _ _ _ _ h=>h) (fun _ _ _ hl=>live _ hl),h.t.mono ext,h.n,h.d.mono ext⟩,?_⟩
 ·rcases aq HD h2 with ⟨rfl,rfl⟩ | ⟨k1,h2⟩
  ·simp only [St.bn] at h1
   rw [an Mt] at h1
   cases h1
   have Jy:∀ i f b c f' c',nth ts i=some (.tok f b c)→t=.tok f' b c'→False:=fun i f b c f' c' hi ht=>cg (h.g.inj id _ _ _ b aU Gb (hh _ _ _ ht) ⟨i,f,c,hi⟩)
   refine ⟨by simp [q1],fun i j f b c f' c' hi hj=>?_,fun j row t' hf qF=>?_⟩
   ·rcases aO hi with hi | ⟨k,hk,hi⟩
    ·rcases aO hj with hj | ⟨k',gm,hj⟩
     ·exact q2 i j _ _ _ _ _ hi hj
     ·cases k' with
      | zero=>simp only [nth,Option.some.injEq] at hj; exact (Jy _ _ _ _ _ _ hi hj).elim
      | succ _=>cases hj
    ·cases k with
     | succ _=>cases hi
     | zero=>
      rcases aO hj with hj | ⟨k',gm,hj⟩
      ·simp only [nth,Option.some.injEq] at hi; exact (Jy _ _ _ _ _ _ hj hi).elim
      ·cases k' with
       | zero=>omega
       | succ _=>cases hj
   ·rcases aO hf with sa | ⟨k,hk,sa⟩
    ·rcases aO qF with qF | ⟨k',gm,qF⟩
     ·exact (q3 j row t' sa qF).mono ext fun _ _ _ _=>⟨rfl,fun _ h=>h⟩
     ·have:=aT sa
      omega
    ·rcases aO qF with qF | ⟨k',gm,qF⟩
     ·have:=aT qF
      omega
     ·have D7:k=k':=by omega
      subst D7
      cases k with
      | succ _=>cases sa
      | zero=>
       cases sa; cases qF
       exact ht.mono ext fun _ _ _ _=>⟨rfl,fun _ h=>h⟩
  ·simp only [St.bn] at h1
   rw [aD (Ne.symm k1)] at h1
   rcases aq aU h2 with ⟨rfl,rfl⟩ | ⟨k2,h2⟩
   ·rw [an hg] at h1
    cases h1
    exact trivial
   ·rw [aD (Ne.symm k2)] at h1
    exact (h.g.obj i g r h1 h2).mono ext (fun _ _=>rfl) (fun _ _ _ h=>h)
 ·rcases B9 i ri x h1 b1 with ⟨k1,k2⟩ | ⟨k1,k2⟩ | ⟨k1,k2,k3⟩
  ·rcases B9 j rj x h2 b2 with ⟨l1,l2⟩ | ⟨l1,l2⟩ | ⟨l1,l2,l3⟩
   ·omega
   ·omega
   ·exact absurd (h.g.inj fK j _ _ x Gb l3 k2 b2).symm l1
  ·rcases B9 j rj x h2 b2 with ⟨l1,l2⟩ | ⟨l1,l2⟩ | ⟨l1,l2,l3⟩
   ·omega
   ·omega
   ·exact absurd (h.g.inj id j _ _ x aU l3 k2 b2).symm l2
  ·rcases B9 j rj x h2 b2 with ⟨l1,l2⟩ | ⟨l1,l2⟩ | ⟨l1,l2,l3⟩
   ·exact absurd (h.g.inj fK i _ _ x Gb k3 l2 b1).symm k1
   ·exact absurd (h.g.inj id i _ _ x aU k3 l2 b1).symm k2
   ·exact h.g.inj i j ri rj x k3 l3 b1 b2
 ·refine ⟨ext,rfl,rfl,rfl,Nat.le_refl _,fun _ _ _=>rfl,fun b _ ho=>?_,fun _ _ h _ _=>h⟩
  rcases ho with ho | ho
  ·exact .inl (live b ho)
  ·exact .inr ho
theorem aQ.Qk (h:aQ E R w β s a) {id fK sz:Nat} {el:TypeId} {es:List AV} {rows:List (List AV)} (hg:nth s.G id=some (.cK es sz el)) (hm:nth s.G fK=some (.gY rows sz el)) (gi:ay es=true) :
  ∃ R',aQ E R' w β (s.bn (au (au s.G id .dead) fK (.gY (rows++[es]) sz el))) a∧Step R w β s.boxes R' w β s.boxes∧∀ f len c,f=es.length→len=es.length→Rel R w (.cT id f 0 sz len) c→Rel R' w (.gk fK rows.length sz len) c:=by
 have cg:id≠fK:=fun e=>by
  subst e
  rw [hg] at hm
  cases hm
 have ex:∀ {i:Nat} {g:GO},nth s.G i=some g→∃ ro,nth R.obj i=some ro:=fun {i g} hi=>by
  have:=aT hi
  rw [← h.g.len] at this
  exact ⟨R.obj[i],by rw [aG]; exact List.getElem?_eq_getElem this⟩
 obtain ⟨ro,aU⟩:=ex hg
 obtain ⟨rm,WA⟩:=ex hm
 have bt:=h.g.obj id _ _ hg aU
 have Ca:=h.g.obj fK _ _ hm WA
 cases rm with
 | none=>exact Ca.elim
 | aR=>exact Ca.elim
 | bw _=>exact Ca.elim
 | tok _ _ _ _=>exact Ca.elim
 | aM ts=>
 have hlen:ts.length=rows.length:=Ca.1
 have HD:nth (R.reset id .none).obj fK=some (.aM ts):=by rw [af.reset,aD cg]; exact WA
 cases ro with
 | none=>exact bt.elim
 | bw _=>exact bt.elim
 | aM _=>exact bt.elim
 | aR=>
  have B2:es=[]:=bt
  subst B2
  obtain ⟨r1,r2⟩:=h.Ge hg hm aU WA (t:=.aR) trivial rfl (fun _ _ _ e=>by cases e)
  refine ⟨_,r1,r2,fun f len c e1 e2 hc=>?_⟩
  subst e1; subst e2
  cases hc with
  | gT _ _=>exact Rel.qq (an HD) trivial
  | cT hr cS _=>
   rw [aU] at hr
   cases hr
   exact cS.elim
 | tok f0 b c k=>
  obtain ⟨rfl,rfl,h1,cur,vs,h2,h3,h4,h5,h6,h7,h8,h9⟩:=bt
  obtain ⟨r1,r2⟩:=h.Ge hg hm aU WA (t:=.tok es.length b c) trivial ⟨rfl,tw h1 gi,cur,vs,h2,h3,h4,h5,h6,h7,h8,h9⟩ (fun _ _ _ e=>by cases e; exact rfl)
  refine ⟨_,r1,r2,fun f len c' e1 e2 hc=>?_⟩
  subst e1; subst e2
  generalize hl:es.length=n at hc
  cases hc with
  | gT hr hon=>
   rw [aU] at hr
   cases hr
   have:1≤es.length:=hon
   omega
  | cT hr cS eh=>
   rw [aU] at hr
   cases hr
   obtain ⟨p1,p2⟩:=cS
   obtain ⟨p3,p4,p5⟩:=p2 hl.symm
   subst hl
   refine Rel.gk (an HD) ⟨.tok es.length b c,?_,Nat.le_refl _,fun _=>⟨p3,?_,by omega⟩⟩ eh
   ·rw [← hlen,aG,List.getElem?_append_right (Nat.le_refl _),Nat.sub_self]
    rfl
   ·rcases p5 with p5 | p5
    ·exact .inl (by rw [p5,Nat.zero_mul])
    ·exact .inr p5
theorem uu (h:aQ E R w β s a) {args:Array Operand} {t:TypeId} (ho:o.op=.call { callee:=.builtin .append,args:=args,argTypes:=#[t,t] }) {id f off sz len Tx cap y1 y2 y3 y4:Nat} {el:TypeId}
  (hl:kN E s.ae args.toList=some [.cT id f off sz len,.iy Tx 0 1 1 cap]) (aX:nth s.G Tx=some (.row [.gk y1 y2 y3 y4] el))
  {i:TI} (hi:E.ti t=some i) {elem esz eb:Nat} {ag:Bool} {z:AV} (hk:i.k=.sl elem esz ag eb (some z)) (yB:esz=1) (yA:1≤eb) (hz:z.cells.length=esz) (lM:z.aN=true)
  {v:AV} {G':List GO} (ha:dH s.G elem esz eb (.cT id f off sz len) [.gk y1 y2 y3 y4]=some (true,v,G')) :
  bB E R w β s a o ((s.bn G').put o.dst (.v v)):=by
 have hr:=eO h hl
 generalize hv:args.toList.map a.eval=vs at hr
 have hx:=cZ (E:=E) (w:=w) ho vs hv
 cases hr with
 | @cons _ cx _ _ h0 h1=>
 cases h1 with
 | @cons _ cy _ _ h1 h2=>
 cases h2
 obtain ⟨fx,u,e1,e2,e3,e4,e5,e6⟩:=bR E hi
 rw [hk] at e5
 obtain ⟨ie,ue,rfl,f1,f2,f3,f4,f5,f6⟩:=cE e5
 have mS:(⟨[cx,cy]⟩:Array Value)=#[cx,cy]:=rfl
 subst yB
 cases h1 with
 | @iy _ _ _ _ _ b hb eh=>
 obtain ⟨us,k1,k2,k3,k4⟩:=h.g.obj Tx _ _ aX hb
 have Ga:us.length=1:=k2.length.symm
 have kb:∀ j v,us[j]?=some v→w.cell? ((⟨b,0,none⟩:Addr).add j)=some v:=fun j v hj=>by
  rw [bZ,Nat.zero_add,cell_of_row w b j _ el (0,0) k1]
  simpa using hj
 unfold dH at ha
 simp only at ha
 split at ha
 ·rename_i es a6 e' fP
  split at ha
  ·rename_i bH
   simp only [Bool.and_eq_true] at bH
   obtain ⟨⟨q1,q2⟩,q3⟩:=bH
   have q1:=Nat.eq_of_beq_eq_true q1
   have q2:=Nat.eq_of_beq_eq_true q2
   have q3:=Nat.eq_of_beq_eq_true q3
   subst q1; subst q2; subst q3
   injection ha with ha; injection ha with hc ha; injection ha with p q
   subst p; subst q
   simp only [Bool.and_eq_true,decide_eq_true_eq] at hc
   refine jr h (cx:=cx) (cy:=.slice (some ⟨b,0,none⟩) 1 cap) (t:=t) (u:=t) (us:=us) (fun hh=>?_) yA hz lM f2 f3 f6 h0 (y:=.gk y1 y2 y3 y4) (ys:=[]) (fun zc lD=>?_) (fun e he=>?_) k2 k3 (by simpa using Ga) fP hc.1.1.1 hc.1.1.2 hc.1.2 hc.2
   ·rw [hx]
    simp only [builtin,mS,Sem.run_bind,hh,Result.andThen_ok,Sem.run_pure]
   ·refine ⟨fun hn=>absurd hn (by simp),fun hh AL AM=>run_append_nil (P:=E.P) w t o.type e' ie zc e2 f1 lD _ _ cap us (by rw [Ga,f2]) kb hh AL AM,fun _ b sLen ej sC vH HA hg AL AM=>run_append_grow (P:=E.P) w t o.type e' ie zc e2 f1 lD b sLen ej sC vH HA _ _ cap us (by rw [Ga,f2]) kb hg AL AM,fun _ g k sLen ej cur hg cQ lO=>fT (P:=E.P) w t o.type e' ie e2 f1 g k sLen ej cur hg _ _ cap us (by rw [Ga,f2]) kb k3 cQ lO⟩
   ·rcases List.mem_cons.1 he with rfl | he
    ·exact ⟨rfl,rfl⟩
    ·cases he
  ·cases ha
 ·cases ha
def sD:List AV→Bool
 | []=>true
 | .list .nil _ [] :: l=>sD l
 | _ :: _=>false
theorem zt {g:Nat→AV} (hg:∀ j,(g j).cells=[g j]) (hR:∀ j sz c,Rel R w (.list .nil sz []) c→Rel R w (g j) c):∀ {es:List AV} {vs:List Value} (k:Nat),sD es=true→aC R w (ar es) vs→aC R w (ar ((List.range' k es.length).map g)) vs
 | [],_,_,_,h=>h
 | e :: es,vs,k,hn,h=>by
  unfold sD at hn
  split at hn
  ·rename_i h0; cases h0
  ·rename_i sz l h0
   cases h0
   simp only [ar,AV.cells,List.singleton_append] at h
   cases h with
   | cons h1 h2=>
   simp only [List.length_cons,List.range'_succ,List.map_cons,ar,hg,List.singleton_append]
   exact .cons (hR k _ _ h1) (zt hg hR (k+1) hn h2)
  ·cases hn
theorem aQ.Jz (h:aQ E R w β s a) {id:Nat} {es:List AV} {el:TypeId} (aX:nth s.G id=some (.cK es 1 el)) (hn:sD es=true) {g:Nat→AV} (hg:∀ j,(g j).cells=[g j]) (ht:∀ j,(g j).aN=true) (hR:∀ j sz c,Rel R w (.list .nil sz []) c→Rel R w (g j) c) :
  aQ E R w β (s.bn (au s.G id (.cK ((List.range es.length).map g) 1 el))) a∧Step R w β s.boxes R w β s.boxes:=by
 refine ⟨⟨⟨by simp [St.bn,h.g.len],fun i go r h1 h2=>?_,h.g.inj,h.g.wf,h.g.ck,h.g.lo⟩,h.b,h.t,h.n,h.d⟩,Step.refl _ _ _ _⟩
 rcases bT h1 with ⟨rfl,rfl,_⟩ | ⟨_,h1⟩
 ·have bt:=h.g.obj id _ _ aX h2
  have hlen:((List.range es.length).map g).length=es.length:=by simp
  cases r with
  | none=>exact bt.elim
  | bw _=>exact bt.elim
  | aM _=>exact bt.elim
  | aR=>
   have he:es=[]:=bt
   subst he
   exact rfl
  | tok f b c k=>
   obtain ⟨q1,q2,q3,cur,vs,q4,q5,q6,q7,q8,q9,q10,q11⟩:=bt
   refine ⟨q1,by rw [hlen]; exact q2,fun e he=>?_,cur,vs,q4,q5,q6,q7,q8,?_,q10,q11⟩
   ·obtain ⟨j,_,rfl⟩:=List.mem_map.1 he
    exact ⟨by rw [hg]; rfl,ht j⟩
   ·rw [List.range_eq_range']
    exact zt hg hR 0 hn q9
 ·exact h.g.obj i go r h1 h2
end
end Go.Am
