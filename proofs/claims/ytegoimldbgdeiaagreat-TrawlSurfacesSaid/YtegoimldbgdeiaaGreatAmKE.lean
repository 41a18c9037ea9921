/- The abstract machine: what it does is what the model does: append and copy. -/
import Derived.Test.YtegoimldbgdeiaaGreatAmKD
import Derived.Lib.AppendStr
set_option linter.all false
open Array renaming getElem?_toList→abt, length_toList→abO, toList_append→acD, size_append→acP
open Bool renaming and_eq_true→aas
open Go.Builtin renaming append_→aag, zeroCells→aah, lenOf→abS, firstCells→abY
open Go.Lib renaming strCells→acJ, strCells_length→adK, strCells_oneCell→adN
open Go.Result renaming andThen_ok→acy
open Go.Sem renaming run_bind→ac0, run_pure→ac8
open List renaming length_append→aaq, getElem?_append_left→aaF, getElem?_eq_getElem→aaN, getElem?_eq_some_iff→abp, eq_nil_of_length_eq_zero→abr, length_cons→abu, length_nil→abw, size_toArray→abx, append_assoc→abz, getElem?_take→abA, getElem?_append_right→abJ, replicate→abK, length_take→abL, length_drop→abN, getElem?_toArray→acR, take_left'→acX, length_set→ade, mem_of_getElem?→adp, singleton_append→adM, toList_toArray→adO
open Nat renaming eq_of_beq_eq_true→aaa, le_refl→aak, add_mul→aar, zero_add→aaG, mul_le_mul_right→abv, le_mul_of_pos_right→abR, zero_mul→acC, le_trans→acU, sub_self→adP
open Ne renaming symm→adL
open Option.some renaming injEq→adS
namespace Go.Am
open Go
section fams
variable {E:Env} {R R':aj} {w w':World} {β β':Nat→Nat} {s s':St} {a a':Act} {o:Oper}
theorem nW {α:Type} {l r:List α} {i:Nat} {x:α} (h:nth l i=some x):nth (l++r) i=some x:=by
 have:=bl h;rw [aV] at *;rw [aaF this];exact h
theorem bc {α:Type} {l r:List α} {i:Nat} {x:α} (h:nth (l++r) i=some x):nth l i=some x∨∃ j,i=l.length+j∧nth r j=some x:=by
 rw [aV] at h;rcases Nat.lt_or_ge i l.length with cE|E6
 ·rw [aaF cE] at h;exact .inl (by rw [aV]; exact h)
 ·rw [abJ E6] at h;exact .inr ⟨i - l.length,by omega,by rw [aV]; exact h⟩
theorem bi.LA (h:bi E R w β s a) {id sz:Nat} {e:TypeId} {fs:List Nat} (hid:nth s.G id=some (.aY fs sz e)) {nfs:List Nat} {nts:List TR} (hl:nts.length=nfs.length)
  (fQ:∀ j f t,nth nfs j=some f→nth nts j=some t→FD R w sz e f t) (xe:∀ j f b c,nth nts j≠some (.tok f b c)) {ro:RO} (bu:nth R.obj id=some ro) :
  ∃ ts,ro=.aY ts∧ts.length=fs.length∧bi E (R.reset id (.aY (ts++nts))) w β (s.bM (aC s.G id (.aY (fs++nfs) sz e))) a∧Step R w β s.boxes (R.reset id (.aY (ts++nts))) w β s.boxes:=by
 have b8:=h.g.obj id _ _ hid bu;cases ro with
 |none=>exact b8.elim
 |bj=>exact b8.elim
 |bZ _=>exact b8.elim
 |tok _ _ _ _=>exact b8.elim
 |aY ts=>
 obtain ⟨q1,q2,q3⟩:=b8;have nV:∀ b,RO.has (.aY (ts++nts)) b→RO.has (.aY ts) b:=fun b ⟨j,f,c,hj⟩=>by
  rcases bc hj with hj|⟨i,_,hi⟩
  ·exact ⟨j,f,c,hj⟩
  ·exact absurd hi (xe i f b c)
 have ext:Ext R w (R.reset id (.aY (ts++nts))) w:=⟨fun _ _ h=>h,fun _ _ _=>rfl,fun i r hr=>by
  by_cases e:id=i
  ·subst e;rw [bu] at hr;cases hr;exact ⟨_,au bu,fun j t hj=>⟨t,nW hj,jV.refl t⟩⟩
  ·exact ⟨r,by rw [aj.reset,aX e]; exact hr,cQ.refl r⟩,ju.refl w⟩
 have live:∀ b,Live (R.reset id (.aY (ts++nts))) b→Live R b:=fun b ⟨i,r,h1,h2⟩=>by
  rcases aw bu h1 with ⟨_,rfl⟩|⟨_,h1⟩
  ·exact ⟨id,_,bu,nV b h2⟩
  ·exact ⟨i,r,h1,h2⟩
 refine ⟨ts,rfl,q1,⟨⟨by simp [St.bM,aj.reset,h.g.len],fun i g r h1 h2=>?_,fun i j ri rj b h1 h2 b1 b2=>?_,h.g.wf,fun g cs hg=>(h.g.ft g cs hg).mono ext,h.g.lo⟩,h.b.bD ext (fun _ _ _=>rfl) (fun _ _ _ _ h=>h) (fun _ _ _ hl=>live _ hl),h.t.mono ext,h.n,h.d.mono ext⟩,?_⟩
 ·rcases aw bu h2 with ⟨rfl,rfl⟩|⟨df,h2⟩
  ·simp only [St.bM] at h1;rw [au hid] at h1;cases h1;refine ⟨by simp [q1,hl],fun i j f b c f' c' hi hj=>?_,fun j f t hf ht=>?_⟩
   ·rcases bc hi with hi|⟨_,_,hi⟩
    ·rcases bc hj with hj|⟨_,_,hj⟩
     ·exact q2 i j _ _ _ _ _ hi hj
     ·exact absurd hj (xe _ _ _ _)
    ·exact absurd hi (xe _ _ _ _)
   ·rcases bc hf with B6|⟨k,hk,B6⟩
    ·rcases bc ht with ht|⟨k',ly,ht⟩
     ·exact q3 j f t B6 ht
     ·have:=bl B6;omega
    ·rcases bc ht with ht|⟨k',ly,ht⟩
     ·have:=bl ht;omega
     ·have Ll:k=k':=by omega
      subst Ll;exact fQ k f t B6 ht
  ·simp only [St.bM] at h1;rw [aX (adL df)] at h1;exact (h.g.obj i g r h1 h2).mono ext (fun _ _=>rfl) (fun _ _ _ h=>h)
 ·rcases aw bu h1 with ⟨g3,e1⟩|⟨g3,g1⟩
  ·rcases aw bu h2 with ⟨g4,e2⟩|⟨g4,g2⟩
   ·omega
   ·rw [e1] at b1;exact g3.trans (h.g.inj id j _ _ b bu g2 (nV b b1) b2)
  ·rcases aw bu h2 with ⟨g4,e2⟩|⟨g4,g2⟩
   ·rw [e2] at b2;exact (h.g.inj i id _ _ b g1 bu b1 (nV b b2)).trans g4.symm
   ·exact h.g.inj i j ri rj b g1 g2 b1 b2
 ·refine ⟨ext,rfl,rfl,rfl,aak _,fun _ _ _=>rfl,fun b _ ho=>?_,fun _ _ h _ _=>h⟩;rcases ho with ho|ho
  ·exact .inl (live b ho)
  ·exact .inr ho
theorem cq.step {s1:St} {s2:St} (e:s1.boxes=s.boxes) (st:Step R w β s.boxes R' w β s.boxes) (h:cq E R' w β s1 a o s2):cq E R w β s a o s2:=by
 obtain ⟨nx,x,w',R2,β',h1,h2,h3,h4⟩:=h;rw [e] at h4;exact ⟨nx,x,w',R2,β',h1,h2,h3,st.trans h4⟩
theorem aeC {c:Bool} {α:Type} {a b:α} (h:(bif c then some a else none)=some b):c=true∧a=b:=by
 cases c
 ·cases h
 ·exact ⟨rfl,Option.some.inj h⟩
theorem sV {sz:Nat} {e:TypeId}:∀ {G:List GO} {i j:Nat},mM G sz e i=some j→∃ fs,nth G (j - i)=some (.aY fs sz e)∧i≤j
 |[],i,j,h=>by cases h
 |g :: G,i,j,h=>by
  have step:mM G sz e (i+1)=some j→∃ fs,nth (g :: G) (j - i)=some (.aY fs sz e)∧i≤j:=fun h=>by
   obtain ⟨fs,h1,h2⟩:=sV h;refine ⟨fs,?_,by omega⟩;rw [show j - i=(j - (i+1))+1 by omega];exact h1
  unfold mM at h;split at h
  ·rename_i oK;cases oK
  ·rename_i oK;obtain ⟨rfl,rfl⟩:=List.cons.inj oK;split at h
   ·rename_i j' hj;cases h;exact step hj
   ·obtain ⟨hc,rfl⟩:=aeC h
    ·rw [aas] at hc;have h1:=aaa hc.1;have h2:=aaa hc.2;subst h1 h2;exact ⟨_,by rw [adP]; rfl,aak _⟩
  ·rename_i x G1 _ _ _ hn oK;obtain ⟨rfl,rfl⟩:=List.cons.inj oK;exact step h
theorem bi.NM {s0:St} {d:Option Tmp} {x y:AV} (h:bi E R w β (s0.put d (.v x)) a) (hw:∀ c,Rel R w x c→Rel R w y c):bi E R w β (s0.put d (.v y)) a:=by
 cases d with
 |none=>exact h
 |some d=>
  simp only [St.put] at h ⊢;cases hb:Nat.blt d s0.n with
  |false=>rw [hb] at h; exact h
  |true=>
   rw [hb] at h;refine ⟨h.g,h.b,fun i hi=>?_,h.n,h.d⟩;by_cases e:d=i
   ·subst e;rw [aN];obtain ⟨c,k1,k2⟩:=h.t d (by rw [aN]; simp);rw [aN] at k2;exact ⟨c,k1,hw c k2⟩
   ·rw [a8 e] at hi ⊢;have:=h.t i (by rw [a8 e]; exact hi);rw [a8 e] at this;exact this
theorem cq.NM {s0:St} {x y:AV} (h:cq E R w β s a o (s0.put o.dst (.v x))) (hw:∀ R' w',Ext R w R' w'→∀ c,Rel R' w' x c→Rel R' w' y c):cq E R w β s a o (s0.put o.dst (.v y)):=by
 obtain ⟨nx,v,w',R',β',h1,h2,h3,h4⟩:=h;refine ⟨nx,v,w',R',β',h1,h2,h3.NM (hw R' w' h4.ext),?_⟩;rw [bn] at h4 ⊢;exact h4
end fams
section ops
variable {E:Env} {R:aj} {w:World} {β:Nat→Nat} {s:St} {a:Act} {o:Oper}
theorem oY {k:LK} {sz esz:Nat} {es:List AV} {c:Value} (h:Rel R w (.list k sz es) c) (gJ:es=[]∨sz=esz) :
  jF esz es∧∃ vs,aQ R w (aE es) vs∧(∀ v∈vs,v.oneCell'=true)∧vs.length=es.length * esz ∧
   ((es=[]∧vs=[]∧∃ ad,c=.slice ad 0 0∧(ad=none∨k=.iu))∨∃ b o' cap,c=.slice (some ⟨b,o',none⟩) es.length cap∧es.length≤cap∧GZ R k b o' es.length cap∧(∀ j v,vs[j]?=some v→w.cell? ((⟨b,o',none⟩:Addr).add j)=some v)∧kn R w b o' esz es):=by
 cases h with
 |lY=>exact ⟨fun e he=>by simp at he,[],.nil,by simp,by simp,.inl ⟨rfl,rfl,_,rfl,.inl rfl⟩⟩
 |lZ=>exact ⟨fun e he=>by simp at he,[],.nil,by simp,by simp,.inl ⟨rfl,rfl,_,rfl,.inl rfl⟩⟩
 |rv=>exact ⟨fun e he=>by simp at he,[],.nil,by simp,by simp,.inl ⟨rfl,rfl,_,rfl,.inr rfl⟩⟩
 |qJ=>exact ⟨fun e he=>by simp at he,[],.nil,by simp,by simp,.inl ⟨rfl,rfl,_,rfl,.inl rfl⟩⟩
 |qa=>exact ⟨fun e he=>by simp at he,[],.nil,by simp,by simp,.inl ⟨rfl,rfl,_,rfl,.inl rfl⟩⟩
 | @list _ _ _ b o' len cap hr hlen jZ Ll=>
  subst hlen;have mW:kn R w b o' esz es:=by
   rcases gJ with rfl|rfl
   ·exact .nil
   ·exact hr
  obtain ⟨g0,vs,g1,g2,g3,g4⟩:=CK mW;refine ⟨g0,vs,g1,g2,by rw [← g1.length,fG g0],.inr ⟨b,o',cap,rfl,jZ,Ll,fun j v hv=>?_,mW⟩⟩;rw [de];exact g3 j v hv
theorem CR {b esz:Nat} {es:List AV} {vs:List Value} {w:World} {R:aj} (h0:jF esz es) (h:aQ R w (aE es) vs) (h1:∀ v∈vs,v.oneCell'=true)
  (hc:∀ j v,vs[j]?=some v→w.cell? ⟨b,j,none⟩=some v) (hI:∀ j,j < vs.length→R.I b j):kn R w b 0 esz es:=
 oJ h0 (ik.make h h1 (fun j v hv=>by rw [aaG]; exact hc j v hv) (fun j hj=>by rw [aaG]; exact hI j (by rw [← h.length]; exact hj)))
theorem kS {sz:Nat} {l r:List AV} (h:jF sz l) (k:jF sz r):jF sz (l++r):=fun e he=>by
 rcases List.mem_append.1 he with he|he
 ·exact h e he
 ·exact k e he
theorem jH {l r:List Value} (h:∀ v∈l,v.oneCell'=true) (k:∀ v∈r,v.oneCell'=true):∀ v∈l++r,v.oneCell'=true:=fun v hv=>by
 rcases List.mem_append.1 hv with hv|hv
 ·exact h v hv
 ·exact k v hv
structure Z9 (P:Program) (w:World) (t u ty e:TypeId) (i:TypeInfo) (z:Value) (cy:Value) (n:Nat) (us:List Value):Prop where
 zero:n=0→∀ base len cap,len≤cap→(aag #[t,u] ty #[.slice base len cap,cy]).run P w=.ok (.slice base len cap) w
 nil:0 < n→(n:Int)≤9223372036854775807→n * i.bytes≤281474976710656→(aag #[t,u] ty #[.slice none 0 0,cy]).run P w =
   .ok (.slice (some ⟨w.heap.size,0,none⟩) n (grownCap w n 0 e)) (w.drew.alloc (.cells (us.toArray++aah z.cells (grownCap w n 0 e - n)) e))
 grow:0 < n→∀ (b:Addr) (fj jd:Nat) (CS:List Value),CS.length=fj * i.size→(∀ j v,CS[j]?=some v→w.cell? (b.add j)=some v)→jd < fj+n→((fj+n:Nat):Int)≤9223372036854775807→Builtin.nextslicecap (fj+n) jd * i.bytes≤281474976710656 →
   (aag #[t,u] ty #[.slice (some b) fj jd,cy]).run P w=.ok (.slice (some ⟨w.heap.size,0,none⟩) (fj+n) (grownCap w (fj+n) jd e))
    (w.drew.alloc (.cells (CS.toArray++us.toArray++aah z.cells (grownCap w (fj+n) jd e - (fj+n))) e))
 room:0 < n→∀ (g k fj jd:Nat) (cur:Array Value),w.heap[g]?=some (.cells cur e (0,0))→fj+n≤jd→k+fj * i.size+us.length≤cur.size →
   (aag #[t,u] ty #[.slice (some ⟨g,k,none⟩) fj jd,cy]).run P w=.ok (.slice (some ⟨g,k,none⟩) (fj+n) jd) (w.setRow g (cur.toList.take (k+fj * i.size)++us++cur.toList.drop (k+fj * i.size+us.length)).toArray)
theorem Z9.RC {P:Program} {w:World} {t u ty e:TypeId} {i:TypeInfo} {z:Value} {cy:Value} {n:Nat} {us:List Value} (h:Z9 P w t u ty e i z cy n us) (hn:0 < n) (g fj jd:Nat) (cur:Array Value) (h1:w.heap[g]?=some (.cells cur e (0,0))) (h2:fj+n≤jd) (h3:fj * i.size+us.length≤cur.size) :
  (aag #[t,u] ty #[.slice (some ⟨g,0,none⟩) fj jd,cy]).run P w=.ok (.slice (some ⟨g,0,none⟩) (fj+n) jd) (w.setRow g (cur.toList.take (fj * i.size)++us++cur.toList.drop (fj * i.size+us.length)).toArray):=by
 have:=h.room hn g 0 fj jd cur h1 h2 (by omega);rw [aaG] at this;exact this
theorem mj {P:Program} (w:World) (t ty e:TypeId) (i:TypeInfo) (ht:P.underlying t=some (.slice e)) (hi:P.info? e=some i)
  (g k fj jd:Nat) (cur:Array Value) (hg:w.heap[g]?=some (.cells cur e (0,0)))
  (a:Addr) (m c:Nat) (news:List Value) (hl:news.length=m * i.size) (aeD:∀ j u,news[j]?=some u→w.cell? (a.add j)=some u) (h1:∀ u∈news,u.oneCell'=true)
  (fM:fj+m≤jd) (tS:k+fj * i.size+news.length≤cur.size) :
  (aag #[t,t] ty #[.slice (some ⟨g,k,none⟩) fj jd,.slice (some a) m c]).run P w =
   .ok (.slice (some ⟨g,k,none⟩) (fj+m) jd) (w.setRow g (cur.toList.take (k+fj * i.size)++news++cur.toList.drop (k+fj * i.size+news.length)).toArray):=by
 have hf:=run_firstCells_some (P:=P) w i.size m a m c news hl aeD;have lI:=run_storeCells_at P g (k+fj * i.size) e news 0 cur w hg (by simpa using tS) h1;simp only [Nat.add_zero] at lI;simp [aag,run_underlying ht,sizeOf,typeInfo,hi,abS,fM,hf,Addr.add_lit,lI]
theorem rJ {P:Program} (w:World) (t u ty e:TypeId) (i:TypeInfo) (ht:P.underlying t=some (.slice e)) (hu:P.underlying u=some .string) (hi:P.info? e=some i) (Rp:i.size=1)
  (g k fj jd:Nat) (cur:Array Value) (hg:w.heap[g]?=some (.cells cur e (0,0))) (s:ByteArray)
  (fM:fj+s.size≤jd) (tS:k+fj+s.size≤cur.size) :
  (aag #[t,u] ty #[.slice (some ⟨g,k,none⟩) fj jd,.string s]).run P w =
   .ok (.slice (some ⟨g,k,none⟩) (fj+s.size) jd) (w.setRow g (cur.toList.take (k+fj)++acJ s++cur.toList.drop (k+fj+s.size)).toArray):=by
 have hf:=Lib.run_firstCells_string (P:=P) w 1 s;have lI:=run_storeCells_at P g (k+fj) e (acJ s) 0 cur w hg (by simpa [adK] using tS) (adN s);simp only [Nat.add_zero,adK] at lI;simp [aag,run_underlying ht,run_underlying hu,sizeOf,typeInfo,hi,Rp,abS,fM,hf,Addr.add_lit,lI]
theorem tJ (h:bi E R w β s a) {t u:TypeId} {id f off sz len:Nat} {y:AV} {ys:List AV} {cx cy:Value} {us:List Value}
  (jI:∀ {c:Value} {w':World},(aag #[t,u] o.type #[cx,cy]).run E.P w=.ok c w'→(execOp a.eval o).run E.P w=.ok (.value c) w')
  {elem esz eb:Nat} {z:AV} (Fb:1≤eb) (hz:z.cells.length=esz) (rH:z.ba=true)
  {ie:TypeInfo} (f2:ie.size=esz) (f3:ie.bytes=eb) (f6:jx ie=some z)
  (h0:Rel R w (.ey id f off sz len) cx) (hA:∀ zc:Value,ie.zero=some zc→Z9 E.P w t u o.type elem ie zc cy (y :: ys).length us)
  (y0:ga esz (y :: ys)) (y1:aQ R w (aE (y :: ys)) us) (y2:∀ v∈us,v.oneCell'=true) (y3:us.length=(y :: ys).length * esz)
  {es:List AV} (hid:nth s.G id=some (.da es esz elem)) (hf:f=es.length) (ho0:off=0) (Ac:len=f) (hb:(es.length+(y :: ys).length) * eb≤140737488355328) :
  cq E R w β s a o ((s.bM (aC s.G id (.da (es++(y :: ys)) esz elem))).put o.dst (.v (.ey id (es.length+(y :: ys).length) 0 esz (es.length+(y :: ys).length)))):=by
 obtain ⟨zc,sU,Im⟩:=eT f6;have hA:=hA zc sU;obtain ⟨d1,d2⟩:=Rel.cells (Im R w) rH;have wg:zc.cells.size=esz:=by rw [← hz,d1.length]; simp
 have oZ:0 < (y :: ys).length:=by simp
 have hm:es.length+(y :: ys).length≤140737488355328:=acU (abR _ Fb) hb;have yd:(es++(y :: ys)).length=es.length+(y :: ys).length:=aaq
 -- where a new block has been made
 have fresh:∀ {xs:List Value} {old:Nat} {r0:RO},nth R.obj id=some r0→(∀ b c,cQ r0 (.tok (es.length+(y :: ys).length) b c 0))→ga esz es→aQ R w (aE es) xs→(∀ v∈xs,v.oneCell'=true)→xs.length=es.length * esz →
   (aag #[t,u] o.type #[cx,cy]).run E.P w=.ok (.slice (some ⟨w.heap.size,0,none⟩) (es.length+(y :: ys).length) (grownCap w (es.length+(y :: ys).length) old elem)) (w.drew.alloc (.cells (xs.toArray++us.toArray++aah zc.cells (grownCap w (es.length+(y :: ys).length) old elem - (es.length+(y :: ys).length))) elem)) →
   cq E R w β s a o ((s.bM (aC s.G id (.da (es++(y :: ys)) esz elem))).put o.dst (.v (.ey id (es.length+(y :: ys).length) 0 esz (es.length+(y :: ys).length)))):=by
  intro xs old r0 bu hle E2 hxr zX QT bL;have E6:=grownCap_ge w (es.length+(y :: ys).length) old elem;obtain ⟨r1,r2⟩:=h.Z8 (cur:=xs.toArray++us.toArray++aah zc.cells (grownCap w (es.length+(y :: ys).length) old elem - (es.length+(y :: ys).length))) (vs:=xs++us) (es':=es++(y :: ys)) hid bu (by rw [yd]; exact hle) (by rw [yd]; exact E6) (grownCap_le_maxLen w _ old elem (by unfold maxLen; omega)) (by
   simp only [acP,abx,size_zeroCells,wg,QT,y3,← aar];congr 1;omega) (xZ E2 y0) (by rw [dH]; exact hxr.append y1) (jH zX y2) (by
   rw [yd];simp only [acD];exact acX (by rw [aaq,QT,y3,aar]))
  rw [yd] at r1 r2;refine ⟨_,_,_,_,β,jI bL,.inl rfl,r1.put o.dst ?_,by rw [bn]; exact r2⟩;exact Rel.ey (au bu) ⟨aak _,fun _=>⟨rfl,aaG _,.inl (acC _).symm⟩⟩ E6
 cases h0 with
 | @mh _ _ ro bu hon=>
  have b8:=h.g.obj id _ _ hid bu;have he0:es=[]:=abr hf.symm;subst he0;cases ro with
  |none=>exact b8.elim
  |bZ _=>exact b8.elim
  |aY _=>exact b8.elim
  |tok f' g c k0=>
   obtain ⟨_,rfl,_⟩:=b8;simp [sN] at hon
  |bj=>
   simp only [abw] at hb;have bL:=hA.nil oZ (by omega) (by rw [f3]; rw [aaG] at hb; omega);exact fresh (xs:=[]) (old:=0) bu (fun b c=>by simp only [cQ]; omega) (fun e he=>by simp at he) .nil (by simp) (by simp) (by simpa using bL)
 | @ey _ _ _ _ _ cap b o' ro bu fQ jZ=>
  subst hf; subst ho0; subst Ac;obtain ⟨b',c',cur,vs,rfl,g1,g2,g3,g4,g5,g6,g7,g8,g9⟩:=vw h.g hid bu (fun k=>by subst k; exact fQ);obtain ⟨rfl,NN,Aj⟩:=fQ.2 rfl;rw [aaG] at NN;subst NN;have KS:vs.length=es.length * esz:=by rw [← g7.length,cG g1]
  have rK:∀ j v,vs[j]?=some v→cur[j]?=some v:=fun j v hj=>by
   rw [← g9,abA] at hj;split at hj
   ·rw [← abt]; exact hj
   ·cases hj
  by_cases fM:es.length+(y :: ys).length≤cap
  ·have wX:o'=0:=by
    rcases Aj with Aj|Aj
    ·rw [Aj,acC]
    ·rw [abu] at fM; omega
   subst wX;have hle:(es.length+(y :: ys).length) * esz≤cap * esz:=abv _ fM;have bL:=hA.RC oZ b es.length cap cur g2 fM (by rw [f2,y3,← aar,g5]; exact hle);rw [f2] at bL;have lE:cur.toList.length=cap * esz:=by rw [show cur.toList.length=cur.size from abO,g5]
   obtain ⟨r1,r2⟩:=h.Vn (cur2:=(cur.toList.take (es.length * esz)++us++cur.toList.drop (es.length * esz+us.length)).toArray) (vs:=vs++us) (es':=es++(y :: ys)) hid bu (by rw [yd]; omega) (by rw [yd]; exact fM) g2 (by
    rw [abx,← abO];simp only [aaq,abL,abN,y3,lE];rw [aar] at hle;omega) (xZ g1 y0) (by rw [dH]; exact g7.append y1) (jH g8 y2) (by
    rw [yd,adO,g9];exact acX (by rw [aaq,KS,y3,aar]))
   rw [yd] at r1 r2;refine ⟨_,_,_,_,β,jI bL,.inl rfl,r1.put o.dst ?_,by rw [bn]; exact r2⟩;exact Rel.ey (au bu) ⟨aak _,fun _=>⟨rfl,aaG _,.inl (acC _).symm⟩⟩ fM
  ·have bL:=hA.grow oZ ⟨b,o',none⟩ es.length cap vs (by rw [KS,f2]) (fun j v hj=>by
    rw [de];have KT:=(abp.1 hj).1;have wX:o'=0:=by
     rcases Aj with Aj|Aj
     ·rw [Aj,acC]
     ·have:es.length=0:=by omega
      rw [KS,this] at KT;omega
    subst wX;rw [aaG,cell_of_row w b j cur elem (0,0) g2];exact rK j v hj) (by omega) (by omega) (growslice_fits (by omega) (by rw [f3]; exact hb))
   exact fresh (xs:=vs) (old:=cap) bu (fun b c=>⟨by omega,fun e=>by omega⟩) g1 g7 g8 KS bL
section rows
variable {E:Env} {R R':aj} {w w':World} {β:Nat→Nat} {s:St} {a:Act} {o:Oper}
theorem FE.mono {sz:Nat} {e:TypeId} {row:List AV} {t:TR} (h:FE R w sz e row t) (ex:Ext R w R' w') (hb:∀ f b c,t=.tok f b c→w'.heap[b]?=w.heap[b]?∧∀ o,R'.I b o→R.I b o):FE R' w' sz e row t:=by
 cases t with
 |bj=>exact h
 |full _=>exact h
 |tok f b c=>
  obtain ⟨h5,mN,cur,vs,k1,k2,k3,k4,k5,k6,k7,k8⟩:=h;obtain ⟨m1,m2⟩:=hb f b c rfl;exact ⟨h5,mN,cur,vs,m1.trans k1,k2,k3,k4,fun o ho=>k5 o (m2 o ho),k6.mono ex,k7,k8⟩
theorem bi.RD (h:bi E R w β s a) {rows:List (List AV)} {row':List AV} {elem:TypeId} {sz id j n b c:Nat} {ts:List TR} {t0:TR}
  (hg:nth s.G id=some (.iP rows sz elem)) (hid:nth R.obj id=some (.aY ts)) (hj:nth ts j=some t0)
  (hb:b=w.heap.size∨∃ f c0,t0=.tok f b c0)
  (e:Ext R w (R.reset id (.aY (aC ts j (.tok n b c)))) w')
  (old:∀ b',b'≠b→b' < w.heap.size→w'.heap[b']?=w.heap[b']?)
  (gJ:w.heap.size≤w'.heap.size) (om:FE (R.reset id (.aY (aC ts j (.tok n b c)))) w' sz elem row' (.tok n b c))
  (hd:E.lo≤w.drawn→E.lo≤w'.drawn) (os:w'.os=w.os) (tp:w'.tape=w.tape) (ou:w'.output=w.output) :
  bi E (R.reset id (.aY (aC ts j (.tok n b c)))) w' β (s.bM (aC s.G id (.iP (aC rows j row') sz elem))) a ∧
  Step R w β s.boxes (R.reset id (.aY (aC ts j (.tok n b c)))) w' β s.boxes:=by
 obtain ⟨m1,m2,m3⟩:=h.g.obj id _ _ hg hid;have cE:∀ x,RO.has (.aY ts) x→x < w.heap.size:=fun x hx=>h.g.cC ⟨id,_,hid,hx⟩
 have nV:∀ x,RO.has (.aY (aC ts j (.tok n b c))) x→x=b∨RO.has (.aY ts) x:=fun x ⟨j',f,c1,KT⟩=>by
  rcases cJ KT with ⟨_,hx,_⟩|⟨_,KT⟩
  ·cases hx; exact .inl rfl
  ·exact .inr ⟨j',f,c1,KT⟩
 have hbl:b < w.heap.size→RO.has (.aY ts) b:=fun hl=>by
  rcases hb with hb|⟨f,c0,rfl⟩
  ·omega
  ·exact ⟨j,f,c0,hj⟩
 have live:∀ x,x < w.heap.size→Live (R.reset id (.aY (aC ts j (.tok n b c)))) x→Live R x:=fun x hx ⟨i,r,h1,h2⟩=>by
  rcases aw hid h1 with ⟨rfl,rfl⟩|⟨_,h1⟩
  ·rcases nV x h2 with rfl|h2
   ·exact ⟨i,_,hid,hbl hx⟩
   ·exact ⟨i,_,hid,h2⟩
  ·exact ⟨i,r,h1,h2⟩
 have aab:∀ i r x,nth R.obj i=some r→i≠id→r.has x→x≠b:=fun i r x hi df hx e=>by
  subst e;have hl:=h.g.cC ⟨i,r,hi,hx⟩;exact df (h.g.inj i id _ _ x hi hid hx (hbl hl))
 have gY:∀ j' f x c1,nth ts j'=some (.tok f x c1)→j≠j'→x≠b:=fun j' f x c1 KT df e=>by
  subst e;have hl:=cE x ⟨j',f,c1,KT⟩;rcases hb with hb|⟨f0,c0,rfl⟩
  ·omega
  ·exact df (m2 _ _ _ _ _ _ _ hj KT)
 have CQ:∀ k cs,fh s.boxes k=some cs→β k≠b:=fun k cs hk e=>by
  have hl:=h.fu (.inr ⟨k,cs,hk,rfl⟩);exact (h.b.box k cs hk).2.2 ⟨id,_,hid,by rw [e]; exact hbl (e ▸ hl)⟩
 refine ⟨⟨⟨by simp [St.bM,aj.reset,h.g.len],fun i gg r rC h2=>?_,fun i j' ri rj x rC h2 b1 b2=>?_,fun b o hi=>Nat.lt_of_lt_of_le (h.g.wf b o hi) gJ,fun g cs hg=>(h.g.ft g cs hg).mono e,hd h.g.lo⟩,?_,h.t.mono e,h.n,h.d.mono e⟩,?_⟩
 ·rcases aw hid h2 with ⟨rfl,rfl⟩|⟨df,h2⟩
  ·simp only [St.bM] at rC;rw [au hg] at rC;cases rC;refine ⟨by rw [gV,gV]; exact m1,fun i1 i2 f1 b1 c1 f2 c2 h1 h2=>?_,fun j' row t mW wh=>?_⟩
   ·rcases cJ h1 with ⟨q1,q2,_⟩|⟨q1,q2⟩
    ·rcases cJ h2 with ⟨p1,p2,_⟩|⟨p1,p2⟩
     ·omega
     ·cases q2;exact absurd rfl (gY _ _ _ _ p2 p1)
    ·rcases cJ h2 with ⟨p1,p2,_⟩|⟨p1,p2⟩
     ·cases p2;exact absurd rfl (gY _ _ _ _ q2 q1)
     ·exact m2 _ _ _ _ _ _ _ q2 p2
   ·rcases cJ wh with ⟨q1,q2,_⟩|⟨q1,q2⟩
    ·subst q1; subst q2;rcases cJ mW with ⟨_,p2,_⟩|⟨p1,_⟩
     ·subst p2; exact om
     ·exact absurd rfl p1
    ·rcases cJ mW with ⟨p1,_,_⟩|⟨_,p2⟩
     ·exact absurd p1 q1
     ·exact (m3 j' row t p2 q2).mono e fun f b1 c1 ht=>⟨old b1 (gY j' f b1 c1 (ht ▸ q2) q1) (cE b1 ⟨j',f,c1,ht ▸ q2⟩),fun _ ho=>ho⟩
  ·simp only [St.bM] at rC;rw [aX (adL df)] at rC;exact (h.g.obj i gg r rC h2).mono e (fun x hx=>old x (aab i r x h2 df hx) (h.g.cC ⟨i,r,h2,hx⟩)) (fun b o _ hi=>hi)
 ·rcases aw hid rC with ⟨g3,e1⟩|⟨g3,g1⟩
  ·rcases aw hid h2 with ⟨g4,e2⟩|⟨g4,g2⟩
   ·omega
   ·rw [e1] at b1;rcases nV x b1 with rfl|b1
    ·exact absurd rfl (aab j' rj x g2 g4 b2)
    ·exact g3.trans (h.g.inj id j' _ _ x hid g2 b1 b2)
  ·rcases aw hid h2 with ⟨g4,e2⟩|⟨g4,g2⟩
   ·rw [e2] at b2;rcases nV x b2 with rfl|b2
    ·exact absurd rfl (aab i ri x g1 g3 b1)
    ·exact (h.g.inj i id _ _ x g1 hid b1 b2).trans g4.symm
   ·exact h.g.inj i j' ri rj x g1 g2 b1 b2
 ·exact h.b.bD e (fun k cs hk=>old _ (CQ k cs hk) (h.fu (.inr ⟨k,cs,hk,rfl⟩))) (fun k cs o hk hi=>hi) (fun k cs hk hl=>live _ (h.fu (.inr ⟨k,cs,hk,rfl⟩)) hl)
 ·refine ⟨e,os,tp,ou,gJ,fun x hx hn=>old x (fun e=>hn (.inl ⟨id,_,hid,by rw [e]; exact hbl (e ▸ hx)⟩)) hx,fun x hx ho=>?_,fun b o hi hb _=>hi⟩;rcases ho with ho|ho
  ·exact .inl (live x hx ho)
  ·exact .inr ho
theorem rL {id:Nat} {r0 r1:RO} (hid:nth R.obj id=some r0) (hle:cQ r0 r1) (h:Ext R w R w'):Ext R w (R.reset id r1) w':=by
 refine ⟨fun _ _ h=>h,h.cell,fun i r hr=>?_,h.lp⟩;by_cases ei:id=i
 ·subst ei;rw [hid] at hr;cases hr;exact ⟨_,au hid,hle⟩
 ·exact ⟨r,by rw [aj.reset,aX ei]; exact hr,cQ.refl r⟩
theorem FM {ts:List TR} {j:Nat} {t0 t1:TR} (hj:nth ts j=some t0) (hle:jV t0 t1):xR ts (aC ts j t1):=fun i t hi=>by
 by_cases e:j=i
 ·subst e;rw [hj] at hi;cases hi;exact ⟨t1,au hj,hle⟩
 ·exact ⟨t,by rw [aX e]; exact hi,jV.refl t⟩
theorem BI (h:bi E R w β s a) {t u:TypeId} {id j sz len:Nat} {y:AV} {ys:List AV} {cx cy:Value} {us:List Value}
  (jI:∀ {c:Value} {w':World},(aag #[t,u] o.type #[cx,cy]).run E.P w=.ok c w'→(execOp a.eval o).run E.P w=.ok (.value c) w')
  {elem esz eb:Nat} {z:AV} (Fb:1≤eb) (hz:z.cells.length=esz) (rH:z.ba=true)
  {ie:TypeInfo} (f2:ie.size=esz) (f3:ie.bytes=eb) (f6:jx ie=some z)
  (h0:Rel R w (.gH id j sz len) cx) (hA:∀ zc:Value,ie.zero=some zc→Z9 E.P w t u o.type elem ie zc cy (y :: ys).length us)
  (y0:jF esz (y :: ys)) (y1:aQ R w (aE (y :: ys)) us) (y2:∀ v∈us,v.oneCell'=true) (y3:us.length=(y :: ys).length * esz)
  {rows:List (List AV)} (hid:nth s.G id=some (.iP rows esz elem)) (hjl:j < rows.length) (Ac:len=(rowOf rows j).length) (hb:((rowOf rows j).length+(y :: ys).length) * eb≤140737488355328) :
  cq E R w β s a o ((s.bM (aC s.G id (.iP (aC rows j (rowOf rows j++(y :: ys))) esz elem))).put o.dst (.v (.gH id j esz (len+(y :: ys).length)))):=by
 subst Ac;obtain ⟨zc,sU,Im⟩:=eT f6;have hA:=hA zc sU;obtain ⟨d1,d2⟩:=Rel.cells (Im R w) rH;have wg:zc.cells.size=esz:=by rw [← hz,d1.length]; simp
 have oZ:0 < (y :: ys).length:=by simp
 have hm:(rowOf rows j).length+(y :: ys).length≤140737488355328:=acU (abR _ Fb) hb;obtain ⟨ro,bu⟩:∃ ro,nth R.obj id=some ro:=by
  have:=bl hid;rw [← h.g.len] at this;exact ⟨R.obj[id],by rw [aV]; exact aaN this⟩
 have b8:=h.g.obj id _ _ hid bu;cases ro with
 |none=>exact b8.elim
 |bj=>exact b8.elim
 |bZ _=>exact b8.elim
 |tok _ _ _ _=>exact b8.elim
 |aY ts=>
 obtain ⟨m1,m2,m3⟩:=b8;obtain ⟨t0,Ys⟩:∃ t0,nth ts j=some t0:=⟨ts[j],by rw [aV]; exact aaN (by omega)⟩;have om:nth rows j=some (rowOf rows j):=by
  have:nth rows j=some rows[j]:=by rw [aV]; exact aaN hjl
  unfold rowOf;rw [this]
 have hra:=m3 j _ _ om Ys;have yd:(rowOf rows j++(y :: ys)).length=(rowOf rows j).length+(y :: ys).length:=aaq;generalize rowOf rows j=es at *
 -- where a new block has been made
 have fresh:∀ {xs:List Value} {old:Nat},(∀ b c,jV t0 (.tok (es.length+(y :: ys).length) b c))→jF esz es→aQ R w (aE es) xs→(∀ v∈xs,v.oneCell'=true)→xs.length=es.length * esz →
   (aag #[t,u] o.type #[cx,cy]).run E.P w=.ok (.slice (some ⟨w.heap.size,0,none⟩) (es.length+(y :: ys).length) (grownCap w (es.length+(y :: ys).length) old elem)) (w.drew.alloc (.cells (xs.toArray++us.toArray++aah zc.cells (grownCap w (es.length+(y :: ys).length) old elem - (es.length+(y :: ys).length))) elem)) →
   cq E R w β s a o ((s.bM (aC s.G id (.iP (aC rows j (es++(y :: ys))) esz elem))).put o.dst (.v (.gH id j esz (es.length+(y :: ys).length)))):=by
  intro xs old hle E2 hxr zX QT bL;have E6:=grownCap_ge w (es.length+(y :: ys).length) old elem;have e:=rL (r1:=.aY (aC ts j (.tok (es.length+(y :: ys).length) w.heap.size (grownCap w (es.length+(y :: ys).length) old elem)))) bu (FM Ys (hle _ _)) (show Ext R w R (w.drew.alloc (.cells (xs.toArray++us.toArray++aah zc.cells (grownCap w (es.length+(y :: ys).length) old elem - (es.length+(y :: ys).length))) elem)) from
   ⟨fun _ _ h=>h,fun b o hi=>cw (heap_alloc_old w.drew _ b (h.g.wf b o hi)) o,fun i r hr=>⟨r,hr,cQ.refl r⟩,.old fun b hb=>heap_alloc_old w.drew _ b hb⟩)
  obtain ⟨r1,r2⟩:=h.RD (row':=es++(y :: ys)) hid bu Ys (.inl rfl) e (fun b _ hb=>heap_alloc_old w.drew _ b hb) (by simp) ⟨yd.symm,kS E2 y0,_,xs++us,heap_alloc_new w.drew _,E6,grownCap_le_maxLen w _ old elem (by unfold maxLen; omega),by
   simp only [acP,abx,size_zeroCells,wg,QT,y3,← aar];congr 1;omega,fun o hi=>by have:=h.g.wf _ _ hi; omega,by rw [dH]; exact (hxr.append y1).mono e,jH zX y2,by
   simp only [acD];exact acX (by rw [aaq,QT,y3,aar])⟩ (fun h=>Nat.le_succ_of_le h) rfl rfl rfl
  refine ⟨_,_,_,_,β,jI bL,.inl rfl,r1.put o.dst ?_,by rw [bn]; exact r2⟩;exact Rel.gH (au bu) ⟨_,au Ys,aak _,fun _=>⟨rfl,.inl rfl,rfl⟩⟩ E6
 generalize hlen:es.length=len at h0;cases h0 with
 |xQ Ps hon=>
  have he0:es=[]:=abr hlen;subst he0;simp only [abw] at hb;have bL:=hA.nil oZ (by omega) (by rw [f3]; rw [aaG] at hb; omega);refine fresh (xs:=[]) (old:=0) (fun b c=>?_) (fun e he=>by simp at he) .nil (by simp) (by simp) (by simpa using bL);cases t0 with
  |bj=>simp only [jV]; simp
  |full _=>exact hra.elim
  |tok f b1 c1=>
   have:=hra.1;simp only [jV,abw,abu] at *;exact ⟨by omega,fun e=>by omega⟩
 | @gH _ _ _ _ cap b o' nT Ps fQ jZ=>
  rw [bu] at Ps;cases Ps;obtain ⟨t1,q1,q2⟩:=fQ;rw [Ys] at q1;cases q1;subst hlen;cases t0 with
  |bj=>exact q2.elim
  |full _=>exact hra.elim
  |tok f b1 c1=>
  obtain ⟨g0,Lk,cur,vs,g2,g3,g4,g5,g6,g7,g8,g9⟩:=hra;obtain ⟨rfl,Aj,rfl⟩:=q2.2 g0.symm;subst g0;have g1:=Lk.g;have KS:vs.length=es.length * esz:=by rw [← g7.length,cG g1]
  have rK:∀ j v,vs[j]?=some v→cur[j]?=some v:=fun j v hj=>by
   rw [← g9,abA] at hj;split at hj
   ·rw [← abt]; exact hj
   ·cases hj
  by_cases fM:es.length+(y :: ys).length≤cap
  ·have wX:o'=0:=by
    rcases Aj with Aj|Aj
    ·exact Aj
    ·rw [abu] at fM; omega
   subst wX;have hle:(es.length+(y :: ys).length) * esz≤cap * esz:=abv _ fM;have bL:=hA.RC oZ b es.length cap cur g2 fM (by rw [f2,y3,← aar,g5]; exact hle);rw [f2] at bL;have lE:cur.toList.length=cap * esz:=by rw [show cur.toList.length=cur.size from abO,g5]
   have e:=rL (r1:=.aY (aC ts j (.tok (es.length+(y :: ys).length) b cap))) bu (FM Ys ⟨by omega,fun _=>⟨rfl,rfl⟩⟩) (kK (R:=R) (w:=w) g6 (cur.toList.take (es.length * esz)++us++cur.toList.drop (es.length * esz+us.length)).toArray);obtain ⟨r1,r2⟩:=h.RD (row':=es++(y :: ys)) hid bu Ys (.inr ⟨_,_,rfl⟩) e (fun b' df _=>setRow_other w _ b' _ df) (by simp) ⟨yd.symm,kS Lk y0,_,vs++us,setRow_heap w _ _ _ _ (0,0) g2,fM,g4,by
    rw [abx];simp only [aaq,abL,abN,y3,lE];rw [aar] at hle;omega,g6,by rw [dH]; exact (g7.append y1).mono e,jH g8 y2,by
    rw [adO,g9];exact acX (by rw [aaq,KS,y3,aar])⟩ (fun h=>h) rfl rfl rfl
   refine ⟨_,_,_,_,β,jI bL,.inl rfl,r1.put o.dst ?_,by rw [bn]; exact r2⟩;exact Rel.gH (au bu) ⟨_,au Ys,aak _,fun _=>⟨rfl,.inl rfl,rfl⟩⟩ fM
  ·have bL:=hA.grow oZ ⟨b,o',none⟩ es.length cap vs (by rw [KS,f2]) (fun j v hj=>by
    have KT:=(abp.1 hj).1;have wX:o'=0:=by
     rcases Aj with Aj|Aj
     ·exact Aj
     ·have:es.length=0:=by omega
      rw [KS,this] at KT;omega
    subst wX;rw [de,aaG,cell_of_row w b j cur elem (0,0) g2];exact rK j v hj) (by omega) (by omega) (growslice_fits (by omega) (by rw [f3]; exact hb))
   exact fresh (xs:=vs) (old:=cap) (fun b c=>⟨by omega,fun e=>by rw [abu] at e; omega⟩) Lk g7 g8 KS bL
end rows
theorem rM (h:bi E R w β s a) {t u:TypeId} {id j:Nat} {es:List AV} {y:AV} {ys:List AV} {cx cy:Value} {us:List Value}
  (jI:∀ {c:Value} {w':World},(aag #[t,u] o.type #[cx,cy]).run E.P w=.ok c w'→(execOp a.eval o).run E.P w=.ok (.value c) w')
  {elem esz eb:Nat} {z:AV} (Fb:1≤eb) (hz:z.cells.length=esz) (rH:z.ba=true)
  {ie:TypeInfo} (f2:ie.size=esz) (f3:ie.bytes=eb) (f6:jx ie=some z)
  (h0:Rel R w (.list (.aY id j) esz es) cx) (hA:∀ zc:Value,ie.zero=some zc→Z9 E.P w t u o.type elem ie zc cy (y :: ys).length us)
  (y0:jF esz (y :: ys)) (y1:aQ R w (aE (y :: ys)) us) (y2:∀ v∈us,v.oneCell'=true) (y3:us.length=(y :: ys).length * esz)
  {fs:List Nat} (kp:nth s.G id=some (.aY fs esz elem)) (RE:nth fs j=some es.length) (hb:(es.length+(y :: ys).length) * eb≤140737488355328) :
  cq E R w β s a o ((s.bM (aC s.G id (.aY (aC fs j (es.length+(y :: ys).length)) esz elem))).put o.dst (.v (.list (.aY id j) esz (es++(y :: ys))))):=by
 obtain ⟨zc,sU,Im⟩:=eT f6;have hA:=hA zc sU;obtain ⟨d1,d2⟩:=Rel.cells (Im R w) rH;have wg:zc.cells.size=esz:=by rw [← hz,d1.length]; simp
 have oZ:0 < (y :: ys).length:=by simp
 have hm:es.length+(y :: ys).length≤140737488355328:=acU (abR _ Fb) hb;obtain ⟨x0,xs,x1,x2,x3,x4⟩:=oY (esz:=esz) h0 (.inr rfl);obtain ⟨ro,bu⟩:∃ ro,nth R.obj id=some ro:=by
  cases h0 with
  |qa q _=>exact ⟨_,q⟩
  |list _ _ _ hk=>obtain ⟨ro,q,_⟩:=hk; exact ⟨ro,q⟩
 have b8:=h.g.obj id _ _ kp bu;cases ro with
 |none=>exact b8.elim
 |bj=>exact b8.elim
 |bZ _=>exact b8.elim
 |tok _ _ _ _=>exact b8.elim
 |aY ts=>
 have b8:CB R w esz elem fs ts:=b8;have hjl:j < ts.length:=by rw [b8.1]; exact bl RE
 obtain ⟨tr,ht⟩:∃ tr,nth ts j=some tr:=⟨ts[j],by rw [aV]; exact aaN hjl⟩;have FN:=b8.2.2 j _ _ RE ht;have IL:∀ i f b c,nth ts i=some (.tok f b c)→b < w.heap.size:=fun i f b c hi=>h.g.cC ⟨id,_,bu,i,f,c,hi⟩
 -- where a new block has been made
 have fresh:∀ {old:Nat},(∀ b c,jV tr (.tok (es.length+(y :: ys).length) b c)) →
   (aag #[t,u] o.type #[cx,cy]).run E.P w=.ok (.slice (some ⟨w.heap.size,0,none⟩) (es.length+(y :: ys).length) (grownCap w (es.length+(y :: ys).length) old elem)) (w.drew.alloc (.cells (xs.toArray++us.toArray++aah zc.cells (grownCap w (es.length+(y :: ys).length) old elem - (es.length+(y :: ys).length))) elem)) →
   cq E R w β s a o ((s.bM (aC s.G id (.aY (aC fs j (es.length+(y :: ys).length)) esz elem))).put o.dst (.v (.list (.aY id j) esz (es++(y :: ys))))):=by
  intro old hle bL;have E6:=grownCap_ge w (es.length+(y :: ys).length) old elem;have hcm:=grownCap_le_maxLen w (es.length+(y :: ys).length) old elem (by unfold maxLen; omega);have Yt:(xs.toArray++us.toArray++aah zc.cells (grownCap w (es.length+(y :: ys).length) old elem - (es.length+(y :: ys).length))).size=grownCap w (es.length+(y :: ys).length) old elem * esz:=by
   simp only [acP,abx,size_zeroCells,wg,x3,y3,← aar];congr 1;omega
  generalize mi:xs.toArray++us.toArray++aah zc.cells (grownCap w (es.length+(y :: ys).length) old elem - (es.length+(y :: ys).length))=cur at bL Yt;have o1:=One.drew w (.cells cur elem);obtain ⟨r1,r2⟩:=h.Z2 o1 (n:=(es.length+(y :: ys).length) * esz) (r1:=.aY (aC ts j (.tok (es.length+(y :: ys).length) w.heap.size (grownCap w (es.length+(y :: ys).length) old elem)))) (go:=.aY (aC fs j (es.length+(y :: ys).length)) esz elem) kp bu
   (xR.set ht (hle _ _)) (fun b hb=>NI hb) (CB.set b8 ⟨rfl,cur,o1.new,E6,hcm,Yt,fun o' wX hi=>by
    rcases hi with hi|⟨_,hi⟩
    ·have:=h.g.wf _ _ hi;omega
    ·omega⟩ (fun i f c hi=>absurd (IL i f _ c hi) (Nat.lt_irrefl _)) (fun i f b c _ hi=>⟨o1.old b (IL i f b c hi),fun o' wX=>by
     rcases wX with wX|⟨wX,_⟩
     ·exact wX
     ·have:=IL i f b c hi;omega⟩))
  have e:=r2.ext;refine ⟨_,_,_,_,β,jI bL,.inl rfl,r1.put o.dst ?_,by rw [bn]; exact r2⟩;refine Rel.list (CR (vs:=xs++us) (kS x0 y0) (by rw [dH]; exact (x1.mono e).append (y1.mono e)) (jH x2 y2) (fun j v hj=>?_) (fun j hj=>.inr ⟨rfl,by rw [aaq,x3,y3,← aar] at hj; exact hj⟩)) (by simp) E6 ⟨_,au bu,_,au ht,aak _,fun _=>⟨rfl,.inl rfl,rfl⟩⟩;rw [cell_of_row _ _ j _ _ _ o1.new,← mi];have cE:=(abp.1 hj).1;rw [← abt];simp only [acD,abz];rw [← abz,aaF cE];exact hj
 rcases x4 with ⟨rfl,rfl,ad,rfl,hd⟩|⟨b,o',cap,rfl,aac,xk,wy,xE⟩
 ·obtain rfl:ad=none:=by
   rcases hd with hd|hd
   ·exact hd
   ·cases hd
  simp only [abw] at hb FN;have bL:=hA.nil oZ (by simp only [abw] at hm; omega) (by rw [f3]; rw [aaG] at hb; omega);cases tr with
  |bj=>exact fresh (old:=0) (fun b c=>by simp only [jV,abu]; omega) (by simpa using bL)
  |full f'=>
   have FN:f'=0:=FN;subst FN;exact fresh (old:=0) (fun b c=>by simp only [jV,abu]; omega) (by simpa using bL)
  |tok f' g c=>
   obtain ⟨FN,_⟩:=FN;subst FN;exact fresh (old:=0) (fun b c=>by simp only [jV,abu,abw]; omega) (by simpa using bL)
 ·obtain ⟨nT,Ps,A6⟩:=xk;rw [bu] at Ps;cases Ps;obtain ⟨t',q3,A6⟩:=A6;rw [ht] at q3;cases q3;cases tr with
  |bj=>exact A6.elim
  |full f'=>
   have hf:f'=es.length:=FN;subst hf;have jZ:=A6.2 rfl;subst jZ;have bL:=hA.grow oZ ⟨b,o',none⟩ es.length es.length xs (by rw [x3,f2]) wy (by omega) (by omega) (growslice_fits (by omega) (by rw [f3]; exact hb));exact fresh (fun b c=>by simp only [jV]; omega) bL
  |tok f' g c=>
   obtain ⟨rfl,cur,mi,k1,k3,k4,k5⟩:=FN;obtain ⟨rfl,Aj,rfl⟩:=A6.2 rfl;by_cases fM:es.length+(y :: ys).length≤cap
   ·have ho0:o'=0:=by
     rcases Aj with Aj|Aj
     ·exact Aj
     ·rw [abu] at fM; omega
    subst ho0;have hle:(es.length+(y :: ys).length) * esz≤cap * esz:=abv _ fM;have bL:=hA.RC oZ b es.length cap cur mi fM (by rw [f2,y3,← aar,k4]; exact hle);rw [f2] at bL;generalize RG:(cur.toList.take (es.length * esz)++us++cur.toList.drop (es.length * esz+us.length)).toArray=cur2 at bL;have lE:cur.toList.length=cap * esz:=by rw [show cur.toList.length=cur.size from abO,k4]
    have hll:es.length * esz≤cap * esz:=abv _ k1;have LB:cur2.size=cap * esz:=by
     rw [← RG,abx];simp only [aaq,abL,abN,y3,lE];rw [aar] at hle;omega
    have CN:∀ o',R.I b o'→cur2[o']?=cur[o']?:=fun o' hi=>by
     have ho:o' < es.length * esz:=Nat.lt_of_not_le fun hle=>k5 o' hle hi
     rw [← RG,abz];simp only [acR];rw [aaF (by rw [abL]; omega),abA,if_pos ho,abt]
    have new:(w.setRow b cur2).heap[b]?=some (.cells cur2 elem (0,0)):=setRow_heap w b cur cur2 elem (0,0) mi;obtain ⟨r0,r1,r2⟩:=h.Vj (cur2:=cur2) (n:=(es.length+(y :: ys).length) * esz) (r1:=.aY (aC ts j (.tok (es.length+(y :: ys).length) b cap))) (go:=.aY (aC fs j (es.length+(y :: ys).length)) esz elem) kp bu ⟨j,_,_,ht⟩
     (xR.set ht ⟨by omega,fun e=>by omega⟩) (fun b' oh=>(NI oh).elim (fun e=>by rw [e]; exact ⟨j,_,_,ht⟩) (fun x=>x)) mi CN (fun _=>CB.set b8 ⟨rfl,cur2,new,fM,k3,LB,fun o' wX hi=>by
      rcases hi with hi|⟨_,hi⟩
      ·exact k5 o' (acU (abv _ (Nat.le_add_right _ _)) wX) hi
      ·omega⟩ (fun i f c hi=>b8.2.1 i j _ _ _ _ _ hi ht) (fun i f b' c df hi=>by
       have Ri:b'≠b:=fun e=>by subst e; exact df (b8.2.1 i j _ _ _ _ _ hi ht)
       refine ⟨setRow_other w b b' cur2 Ri,fun o' wX=>?_⟩;rcases wX with wX|⟨wX,_⟩
       ·exact wX
       ·exact absurd wX Ri))
    refine ⟨_,_,_,_,β,jI bL,.inl rfl,r1.put o.dst ?_,by rw [bn]; exact r2⟩;have hxs:cur.toList.take (es.length * esz)=xs:=by
     have UK:xs.length=es.length * esz:=x3;apply List.ext_getElem?;intro j;rw [abA];split
     ·rename_i hj;have KT:j < xs.length:=by omega
      have zM:=wy j xs[j] (aaN KT);rw [de,aaG,cell_of_row w b j cur elem (0,0) mi] at zM;rw [abt,zM,aaN KT]
     ·rw [List.getElem?_eq_none (by omega)]
    refine Rel.list (CR (vs:=xs++us) (kS x0 y0) (by rw [dH]; exact (x1.mono r0).append (y1.mono r0)) (jH x2 y2) (fun j v hj=>?_) (fun j hj=>.inr ⟨rfl,by rw [aaq,x3,y3,← aar] at hj; exact hj⟩)) (by simp) fM ⟨_,au bu,_,au ht,aak _,fun _=>⟨rfl,.inl rfl,rfl⟩⟩;rw [cell_of_row _ _ j _ _ _ new,← RG,hxs];simp only [acR];rw [aaF (abp.1 hj).1];exact hj
   ·have bL:=hA.grow oZ ⟨b,o',none⟩ es.length cap xs (by rw [x3,f2]) wy (by omega) (by omega) (growslice_fits (by omega) (by rw [f3]; exact hb));exact fresh (fun b c=>⟨by omega,fun e=>by omega⟩) bL
theorem RH {fs:List Nat} {j n m:Nat} (h:nth fs j=some m):CA fs j n=aC fs j n:=by
 unfold CA;cases hb:Nat.beq j fs.length with
 |false=>rfl
 |true=>
  have:=aaa hb;have:=bl h;omega
theorem BJ (h:bi E R w β s a) {t u:TypeId} {id j:Nat} {es:List AV} {y:AV} {ys:List AV} {cx cy:Value} {us:List Value}
  (jI:∀ {c:Value} {w':World},(aag #[t,u] o.type #[cx,cy]).run E.P w=.ok c w'→(execOp a.eval o).run E.P w=.ok (.value c) w')
  {elem esz eb:Nat} {z:AV} (Fb:1≤eb) (hz:z.cells.length=esz) (rH:z.ba=true)
  {ie:TypeInfo} (f2:ie.size=esz) (f3:ie.bytes=eb) (f6:jx ie=some z)
  (h0:Rel R w (.list (.aY id j) esz es) cx) (hA:∀ zc:Value,ie.zero=some zc→Z9 E.P w t u o.type elem ie zc cy (y :: ys).length us)
  (y0:jF esz (y :: ys)) (y1:aQ R w (aE (y :: ys)) us) (y2:∀ v∈us,v.oneCell'=true) (y3:us.length=(y :: ys).length * esz)
  {fs:List Nat} (kp:nth s.G id=some (.aY fs esz elem)) (RE:K9 fs j es.length=true) (hb:(es.length+(y :: ys).length) * eb≤140737488355328) :
  cq E R w β s a o ((s.bM (aC s.G id (.aY (CA fs j (es.length+(y :: ys).length)) esz elem))).put o.dst (.v (.list (.aY id j) esz (es++(y :: ys))))):=by
 unfold K9 at RE;rw [Bool.or_eq_true,decide_eq_true_eq,aas] at RE;rcases RE with RE|⟨hj,hl⟩
 ·have df:Nat.beq j fs.length=false:=by
   cases hb:Nat.beq j fs.length with
   |false=>rfl
   |true=>
    have:=aaa hb;have:=bl RE;omega
  unfold CA;rw [df];exact rM h jI Fb hz rH f2 f3 f6 h0 hA y0 y1 y2 y3 kp RE hb
 ·have rN:CA fs j (es.length+(y :: ys).length)=fs++[es.length+(y :: ys).length]:=by
   unfold CA;rw [hj];rfl
  rw [rN];have hj:=aaa hj;have hl:=aaa hl;subst hj;have cE:=bl kp;rw [← h.g.len] at cE;obtain ⟨ro,bu⟩:∃ ro,nth R.obj id=some ro:=⟨R.obj[id],by rw [aV]; exact aaN cE⟩;obtain ⟨ts,rfl,z1,z2,z3⟩:=h.LA kp (nfs:=[0]) (nts:=[.bj]) rfl (fun j f t h1 h2=>by
   cases j with
   |zero=>simp only [nth] at h1 h2; cases h1; cases h2; exact rfl
   |succ j=>simp [nth] at h1) (fun j f b c hj=>by
   cases j with
   |zero=>simp only [nth] at hj; cases hj
   |succ j=>simp [nth] at hj) bu
  have key:=rM z2 jI Fb hz rH f2 f3 f6 (h0.mono z3.ext) hA y0 (y1.mono z3.ext) y2 y3 (fs:=fs++[0]) (au kp) (by rw [hl]; exact eS _ _) hb;have e1:aC (fs++[0]) fs.length (es.length+(y :: ys).length)=fs++[es.length+(y :: ys).length]:=by
   rw [fg,List.set_append_right _ _ (aak _),adP];rfl
  have e2:∀ x y:GO,aC (aC s.G id x) id y=aC s.G id y:=fun x y=>by rw [fg,fg,fg,List.set_set]
  rw [e1] at key;refine cq.step rfl z3 ?_;have e3:((s.bM (aC s.G id (.aY (fs++[0]) esz elem))).bM (aC (s.bM (aC s.G id (.aY (fs++[0]) esz elem))).G id (.aY (fs++[es.length+(y :: ys).length]) esz elem)))=s.bM (aC s.G id (.aY (fs++[es.length+(y :: ys).length]) esz elem)):=by
   simp only [St.bM,e2]
  rw [e3] at key;exact key
theorem mm (h:bi E R w β s a) {t u:TypeId} {x:AV} {ys:List AV} {cx cy:Value} {us:List Value}
  (jI:∀ {c:Value} {w':World},(aag #[t,u] o.type #[cx,cy]).run E.P w=.ok c w'→(execOp a.eval o).run E.P w=.ok (.value c) w')
  {i:TI} {elem esz eb:Nat} {ag:Bool} {z:AV} (hk:i.k=.sl elem esz ag eb (some z)) (Fb:1≤eb) (hz:z.cells.length=esz) (rH:z.ba=true)
  {ie:TypeInfo} (f1:E.P.info? elem=some ie) (f2:ie.size=esz) (f3:ie.bytes=eb) (f6:jx ie=some z)
  (h0:Rel R w x cx) (hA:∀ zc:Value,ie.zero=some zc→Z9 E.P w t u o.type elem ie zc cy ys.length us)
  (y0:jF esz ys) (y1:aQ R w (aE ys) us) (y2:∀ v∈us,v.oneCell'=true) (y3:us.length=ys.length * esz)
  {v:AV} {G':List GO} (ha:gD s.G elem esz eb x ys=some (true,v,G')) :
  cq E R w β s a o ((s.bM G').put o.dst (.v v)):=by
 obtain ⟨zc,sU,Im⟩:=eT f6;have hA':=hA;have hA:=hA zc sU;obtain ⟨d1,d2⟩:=Rel.cells (Im R w) rH;have wg:zc.cells.size=esz:=by rw [← hz,d1.length]; simp
 unfold gD at ha;split at ha
 ·-- nothing is appended
  rename_i k sz es;have hus:us=[]:=abr (by simpa using y3);have hG:G'=s.G∧Rel R w v cx:=by
   split at ha
   ·injection ha with ha; injection ha with _ ha; injection ha with p q;subst p; subst q;exact ⟨rfl,h0⟩
   ·injection ha with ha; injection ha with _ ha; injection ha with p q;subst p; subst q;exact ⟨rfl,h0⟩
  obtain ⟨rfl,hvr⟩:=hG;refine ay (s:=s) h (c:=cx) (jI ?_) hvr;cases h0 with
  |lY=>exact hA.zero rfl _ _ _ (aak 0)
  |lZ=>exact hA.zero rfl _ _ _ (aak 0)
  |rv=>exact hA.zero rfl _ _ _ (aak 0)
  |qJ=>exact hA.zero rfl _ _ _ (aak 0)
  |qa=>exact hA.zero rfl _ _ _ (aak 0)
  |list hr hlen jZ _=>exact hA.zero rfl _ _ _ jZ
 ·-- something is appended
  rename_i k sz es y ys hA;have oZ:0 < (y :: ys).length:=by simp
  -- what is shown where a new block has been made
  have grown:∀ {n old:Nat} {xs:List Value} {es':List AV},(es'.length=n)→jF esz es'→aQ R w (aE es') xs→(∀ v∈xs,v.oneCell'=true)→xs.length=n * esz →
    (n+(y :: ys).length) * eb≤140737488355328→n+(y :: ys).length≤maxLen→∀ (R':aj) (G2:List GO) (id:Nat),
    bi E R' (w.drew.alloc (.cells (xs.toArray++us.toArray++aah zc.cells (grownCap w (n+(y :: ys).length) old elem - (n+(y :: ys).length))) elem)) β (s.bM G2) a →
    Step R w β s.boxes R' (w.drew.alloc (.cells (xs.toArray++us.toArray++aah zc.cells (grownCap w (n+(y :: ys).length) old elem - (n+(y :: ys).length))) elem)) β s.boxes →
    (∀ j,j < (n+(y :: ys).length) * esz→R'.I w.heap.size j)→nth R'.obj id=some (.tok (n+(y :: ys).length) w.heap.size (grownCap w (n+(y :: ys).length) old elem) 0) →
    (aag #[t,u] o.type #[cx,cy]).run E.P w=.ok (.slice (some ⟨w.heap.size,0,none⟩) (n+(y :: ys).length) (grownCap w (n+(y :: ys).length) old elem)) (w.drew.alloc (.cells (xs.toArray++us.toArray++aah zc.cells (grownCap w (n+(y :: ys).length) old elem - (n+(y :: ys).length))) elem)) →
    cq E R w β s a o ((s.bM G2).put o.dst (.v (.list (.own id) esz (es'++(y :: ys))))):=by
   intro n old xs es' QO aad hxr zX QT _ _ R' G2 id b8 NO hI hid bL;refine ⟨_,_,_,R',β,jI bL,.inl rfl,b8.put o.dst ?_,by rw [bn]; exact NO⟩;have e:=NO.ext;refine Rel.list (CR (vs:=xs++us) (kS aad y0) (by rw [dH]; exact (hxr.mono e).append (y1.mono e)) (jH zX y2) (fun j v hj=>?_) (fun j hj=>hI j (by rw [aaq,QT,y3,← aar] at hj; exact hj))) (by simp [QO]) (grownCap_ge w _ _ _) ⟨_,hid,aak _,fun _=>⟨rfl,.inl rfl,rfl⟩⟩;have wZ:(w.drew.alloc (.cells (xs.toArray++us.toArray++aah zc.cells (grownCap w (n+(y :: ys).length) old elem - (n+(y :: ys).length))) elem)).heap[w.heap.size]?=some (.cells (xs.toArray++us.toArray++aah zc.cells (grownCap w (n+(y :: ys).length) old elem - (n+(y :: ys).length))) elem (0,0)):=heap_alloc_new w.drew _;rw [cell_of_row _ _ j _ _ _ wZ];have cE:=(abp.1 hj).1;rw [← abt];simp only [acD,abz];rw [← abz,aaF cE];exact hj
  have RI:∀ {n old:Nat} {xs:List Value},xs.length=n * esz→n+(y :: ys).length≤maxLen→(xs.toArray++us.toArray++aah zc.cells (grownCap w (n+(y :: ys).length) old elem - (n+(y :: ys).length))).size=grownCap w (n+(y :: ys).length) old elem * esz:=by
   intro n old xs QT _;have E6:=grownCap_ge w (n+(y :: ys).length) old elem;simp only [acP,abx,size_zeroCells,wg,QT,y3,← aar];congr 1;omega
  have fresh:∀ {n old:Nat} {xs:List Value} {es':List AV},(es'.length=n)→jF esz es'→aQ R w (aE es') xs→(∀ v∈xs,v.oneCell'=true)→xs.length=n * esz →
    (n+(y :: ys).length) * eb≤140737488355328→n+(y :: ys).length≤maxLen →
    (aag #[t,u] o.type #[cx,cy]).run E.P w=.ok (.slice (some ⟨w.heap.size,0,none⟩) (n+(y :: ys).length) (grownCap w (n+(y :: ys).length) old elem)) (w.drew.alloc (.cells (xs.toArray++us.toArray++aah zc.cells (grownCap w (n+(y :: ys).length) old elem - (n+(y :: ys).length))) elem)) →
    cq E R w β s a o ((s.bM (s.G++[.tok (n+(y :: ys).length) esz elem])).put o.dst (.v (.list (.own s.G.length) esz (es'++(y :: ys))))):=by
   intro n old xs es' QO aad hxr zX QT hb hm bL;obtain ⟨r1,r2⟩:=h.Z0 (cur:=xs.toArray++us.toArray++aah zc.cells (grownCap w (n+(y :: ys).length) old elem - (n+(y :: ys).length))) (elem:=elem) (grownCap_ge w (n+(y :: ys).length) old elem) (grownCap_le_maxLen w _ old elem hm) (RI QT hm);exact grown QO aad hxr zX QT hb hm _ _ _ r1 r2 (fun j hj=>.inr ⟨rfl,hj⟩) (by rw [← h.g.len]; exact eS _ _) bL
  have hml:∀ {n:Nat},(n+(y :: ys).length) * eb≤140737488355328→n+(y :: ys).length≤140737488355328:=fun {n} hb=>acU (abR _ Fb) hb
  split at ha
  ·-- nil
   injection ha with ha; injection ha with hc ha; injection ha with p q;subst p; subst q;have hb:=of_decide_eq_true hc;cases h0 with
   |list _ _ _ Ll=>exact Ll.elim
   |lY=>
    simp only [abw] at hb;have hm:=hml hb;refine fresh (n:=0) (old:=0) (xs:=[]) (es':=[]) rfl (fun e he=>by simp at he) .nil (by simp) (by simp) hb (by unfold maxLen; omega) ?_;have bL:=hA.nil oZ (by omega) (by rw [f3]; rw [aaG] at hb; omega);simpa using bL
  ·-- as long as its capacity
   split at ha
   ·rename_i gJ;have gJ:=aaa gJ;subst gJ;injection ha with ha; injection ha with hc ha; injection ha with p q;subst p; subst q;have hb:=of_decide_eq_true hc;have hm:=hml hb;obtain ⟨x0,xs,x1,x2,x3,x4⟩:=oY (esz:=sz) h0 (.inr rfl);rcases x4 with ⟨rfl,rfl,ad,rfl,hd⟩|⟨b,o',cap,rfl,aac,xk,wy,_⟩
    ·rcases hd with rfl|hd
     ·cases h0
     ·cases hd
    ·have jZ:cap=es.length:=xk;subst jZ;refine fresh (n:=es.length) (old:=es.length) (xs:=xs) (es':=es) rfl x0 x1 x2 x3 hb (by unfold maxLen; omega) ?_;exact hA.grow oZ ⟨b,o',none⟩ es.length es.length xs (by rw [x3,f2]) wy (by omega) (by omega) (growslice_fits (by omega) (by rw [f3]; exact hb))
   ·cases ha
  ·-- of a token
   rename_i id;split at ha
   ·rename_i f bP e' kp;split at ha
    ·rename_i dQ;simp only [aas] at dQ;obtain ⟨⟨q1,q2⟩,q3⟩:=dQ;have q1:=aaa q1;have q2:=aaa q2;have q3:=aaa q3;subst q1; subst q2; subst q3;injection ha with ha; injection ha with hc ha; injection ha with p q;subst p; subst q;simp only [aas] at hc;have RE:=of_decide_eq_true hc.1;have hb:=of_decide_eq_true hc.2;subst RE;have hm:=hml hb;obtain ⟨x0,xs,x1,x2,x3,x4⟩:=oY (esz:=sz) h0 (.inr rfl);rcases x4 with ⟨rfl,rfl,ad,rfl,hd⟩|⟨b,o',cap,rfl,aac,xk,wy,xE⟩
     ·obtain rfl:ad=none:=by
       rcases hd with hd|hd
       ·exact hd
       ·cases hd
      cases h0 with
      | @qJ _ _ ro bu hon=>
      have b8:=h.g.obj id _ _ kp bu;cases ro with
      |none=>exact b8.elim
      |bZ _=>exact b8.elim
      |tok f' g c k0=>
       obtain ⟨rfl,_⟩:=b8;simp [sN] at hon
      |aY _=>exact b8.elim
      |bj=>
       simp only [abw] at hb;have bL:=hA.nil oZ (by omega) (by rw [f3]; rw [aaG] at hb; omega);have gJ:=RI (n:=0) (old:=0) (xs:=[]) (by simp) (by unfold maxLen; omega);obtain ⟨r1,r2⟩:=h.Ry (cur:=[].toArray++us.toArray++aah zc.cells (grownCap w (0+(y :: ys).length) 0 e' - (0+(y :: ys).length))) (elem:=e') (n:=0+(y :: ys).length) (cap:=grownCap w (0+(y :: ys).length) 0 e') kp bu (fun b c=>by simp only [cQ]; omega) (grownCap_ge w _ _ _) (grownCap_le_maxLen w _ _ _ (by unfold maxLen; omega)) gJ;exact grown (n:=0) (es':=[]) rfl (fun e he=>by simp at he) .nil (by simp) (by simp) hb (by unfold maxLen; omega) _ _ _ r1 r2 (fun j hj=>.inr ⟨rfl,hj⟩) (au bu) (by simpa using bL)
     ·obtain ⟨ro,bu,A6⟩:=xk;have b8:=h.g.obj id _ _ kp bu;cases ro with
      |none=>exact b8.elim
      |bj=>exact A6.elim
      |bZ _=>exact b8.elim
      |aY _=>exact b8.elim
      |tok f' g c k0=>
       obtain ⟨rfl,cur,mi,k1,k3,k4,k5⟩:=b8;obtain ⟨rfl,fQ,rfl⟩:=A6.2 rfl;by_cases fM:es.length+(y :: ys).length≤cap
       ·have fQ:=fQ.resolve_right (by rw [abu] at fM; omega);subst fQ;have hle:(es.length+(y :: ys).length) * sz≤cap * sz:=abv _ fM;have bL:=hA.room oZ b o' es.length cap cur mi fM (by rw [f2,Nat.add_assoc,y3,← aar,k4]; omega);rw [f2] at bL;obtain ⟨r0,r1,r2⟩:=h.Vh (news:=us) (n:=es.length+(y :: ys).length) kp bu (by omega) fM mi k4 k3 (by rw [y3,← aar]);refine ⟨_,_,_,_,β,jI bL,.inl rfl,r1.put o.dst ?_,by rw [bn]; exact r2⟩;have wZ:=setRow_heap w b cur (cur.toList.take (o'+es.length * sz)++us++cur.toList.drop (o'+es.length * sz+us.length)).toArray e' (0,0) mi;have UK:xs.length=es.length * sz:=x3;have lE:cur.toList.length=o'+cap * sz:=by rw [show cur.toList.length=cur.size from abO,k4]
        have E2:es.length * sz≤cap * sz:=abv _ (by omega);have rK:∀ j v,(xs++us)[j]?=some v→(w.setRow b (cur.toList.take (o'+es.length * sz)++us++cur.toList.drop (o'+es.length * sz+us.length)).toArray).cell? ⟨b,o'+j,none⟩=some v:=fun j v hj=>by
         rw [cell_of_row _ _ (o'+j) _ _ _ wZ];simp only [acR];by_cases hjx:j < xs.length
         ·rw [aaF hjx] at hj;have zM:=wy j v hj;rw [de,cell_of_row w b (o'+j) cur e' (0,0) mi] at zM;rw [abz,aaF (by rw [abL]; omega),abA,if_pos (by omega),abt];exact zM
         ·have cE:=(abp.1 hj).1;rw [aaq] at cE;rw [abJ (by omega)] at hj;have ht:(cur.toList.take (o'+es.length * sz)).length=o'+es.length * sz:=by rw [abL]; omega
          rw [abz,abJ (by rw [ht]; omega),ht,aaF (by omega),show o'+j - (o'+es.length * sz)=j - xs.length by omega];exact hj
        refine Rel.list (oJ (kS x0 y0) (ik.make (vs:=xs++us) (by rw [dH]; exact (x1.mono r0).append (y1.mono r0)) (jH x2 y2) rK (fun j hj=>.inr ⟨rfl,?_⟩))) (by simp) fM ⟨_,au bu,aak _,fun _=>⟨rfl,.inl rfl,rfl⟩⟩;rw [dH,aaq,x1.length,y1.length,UK,y3,← aar] at hj;omega
       ·have bL:=hA.grow oZ ⟨b,o',none⟩ es.length cap xs (by rw [x3,f2]) wy (by omega) (by omega) (growslice_fits (by omega) (by rw [f3]; exact hb));obtain ⟨r1,r2⟩:=h.Ry (cur:=xs.toArray++us.toArray++aah zc.cells (grownCap w (es.length+(y :: ys).length) cap e' - (es.length+(y :: ys).length))) (elem:=e') (n:=es.length+(y :: ys).length) (cap:=grownCap w (es.length+(y :: ys).length) cap e') kp bu (fun b c=>⟨by omega,fun e=>by omega⟩) (grownCap_ge w _ _ _) (grownCap_le_maxLen w _ _ _ (by unfold maxLen; omega)) (RI x3 (by unfold maxLen; omega));exact grown rfl x0 x1 x2 x3 hb (by unfold maxLen; omega) _ _ _ r1 r2 (fun j hj=>.inr ⟨rfl,hj⟩) (au bu) bL
    ·cases ha
   ·cases ha
  ·-- of a member of a family
   rename_i id j;split at ha
   ·rename_i fs bP e' kp;split at ha
    ·rename_i dQ;simp only [aas] at dQ;obtain ⟨⟨q1,q2⟩,q3⟩:=dQ;have q1:=aaa q1;have q2:=aaa q2;have q3:=aaa q3;subst q1; subst q2; subst q3;injection ha with ha; injection ha with hc ha; injection ha with p q;subst p; subst q;simp only [aas,decide_eq_true_eq] at hc;exact BJ h jI Fb hz rH f2 f3 f6 h0 (fun zc' RJ=>hA' zc' RJ) y0 y1 y2 y3 kp hc.1 hc.2
    ·cases ha
   ·cases ha
  ·cases ha
 ·-- a slice that grows, and nothing
  injection ha with ha; injection ha with _ ha; injection ha with p q;subst p; subst q;refine ay (s:=s) h (c:=cx) (jI ?_) h0;cases h0 with
  |mh=>exact hA.zero rfl _ _ _ (aak 0)
  |ey _ _ jZ=>exact hA.zero rfl _ _ _ jZ
 ·-- a slice that grows
  rename_i id f' off sz len y ys hA;split at ha
  ·rename_i es bP e' kp;split at ha
   ·rename_i dQ;simp only [aas] at dQ;obtain ⟨⟨q1,q2⟩,q3⟩:=dQ;have q1:=aaa q1;have q2:=aaa q2;have q3:=aaa q3;subst q1; subst q2; subst q3;injection ha with ha; injection ha with hc ha; injection ha with p q;subst p; subst q;simp only [aas,decide_eq_true_eq] at hc;exact tJ h jI Fb hz rH f2 f3 f6 h0 (fun zc' RJ=>hA' zc' RJ) y0.g y1 y2 y3 kp hc.1.1.1 hc.1.1.2 hc.1.2 hc.2
   ·cases ha
  ·cases ha
 ·-- a row, and nothing
  injection ha with ha; injection ha with _ ha; injection ha with p q;subst p; subst q;refine ay (s:=s) h (c:=cx) (jI ?_) h0;cases h0 with
  |xQ=>exact hA.zero rfl _ _ _ (aak 0)
  |gH _ _ jZ=>exact hA.zero rfl _ _ _ jZ
 ·-- a row
  rename_i id j' sz len y ys hA;split at ha
  ·rename_i rows bP e' kp;split at ha
   ·rename_i dQ;simp only [aas] at dQ;obtain ⟨⟨q1,q2⟩,q3⟩:=dQ;have q1:=aaa q1;have q2:=aaa q2;have q3:=aaa q3;subst q1; subst q2; subst q3;injection ha with ha; injection ha with hc ha; injection ha with p q;subst p; subst q;simp only [aas,decide_eq_true_eq] at hc;exact BI h jI Fb hz rH f2 f3 f6 h0 (fun zc' RJ=>hA' zc' RJ) y0 y1 y2 y3 kp hc.1.1 hc.1.2 hc.2
   ·cases ha
  ·cases ha
 ·cases ha
theorem IM (h:bi E R w β s a) {args:Array Operand} {t:TypeId} (ho:o.op=.call { callee:=.builtin .append,args:=args,argTypes:=#[t,t] }) {x:AV} {k2:LK} {FO:Nat} {ys:List AV}
  (hl:rk E s.ab args.toList=some [x,.list k2 FO ys]) {i:TI} (hi:E.ti t=some i) {elem esz eb:Nat} {ag:Bool} {z:AV} (hk:i.k=.sl elem esz ag eb (some z)) (LB:ys=[]∨FO=esz) (amU:1≤esz) (Fb:1≤eb) (hz:z.cells.length=esz) (rH:z.ba=true)
  {v:AV} {G':List GO} (ha:gD s.G elem esz eb x ys=some (true,v,G')) :
  cq E R w β s a o ((s.bM G').put o.dst (.v v)):=by
 have hr:=j3 h hl;generalize hv:args.toList.map a.eval=vs at hr;have hx:=gX (E:=E) (w:=w) ho vs hv;cases hr with
 | @cons _ cx _ _ h0 h1=>
 cases h1 with
 | @cons _ cy _ _ h1 h2=>
 cases h2;obtain ⟨kr,u,e1,e2,e3,e4,e5,e6⟩:=dR E hi;have Ve:=hk;rw [hk] at e5;obtain ⟨ie,ue,rfl,f1,f2,f3,f4,f5,f6⟩:=fT e5;have wz:(⟨[cx,cy]⟩:Array Value)=#[cx,cy]:=rfl;obtain ⟨y0,us,y1,y2,y3,y4⟩:=oY (esz:=esz) h1 LB;refine mm h (cx:=cx) (cy:=cy) (t:=t) (u:=t) (fun hh=>?_) Ve Fb hz rH f1 f2 f3 f6 h0 (fun zc sU=>?_) y0 y1 y2 y3 ha
 ·rw [hx];simp only [builtin,wz,ac0,hh,acy,ac8]
 ·rcases y4 with ⟨rfl,rfl,ad,rfl,_⟩|⟨by',oy,LC,rfl,aio,_,uq,yE⟩
  ·refine ⟨fun _ base len cap IG=>?_,fun hh=>absurd hh (by simp),fun hh=>absurd hh (by simp),fun hh=>absurd hh (by simp)⟩;cases ad <;> simp [aag,run_underlying e2,run_sizeOf w f1,abS,abY,IG,storeCells,loadCells,loadCellsFrom] <;>
    cases base <;> simp [storeCells]
  ·refine ⟨fun hn base len cap IG=>?_,fun hh LD LF=>run_append_nil (P:=E.P) w t o.type elem ie zc e2 f1 sU _ _ LC us (by rw [y3,f2]) uq hh LD LF,fun _ b fj jd CS BK RK hg LD LF=>run_append_grow (P:=E.P) w t o.type elem ie zc e2 f1 sU b fj jd CS BK RK _ _ LC us (by rw [y3,f2]) uq hg LD LF,fun _ g k fj jd cur hg fM tS=>mj (P:=E.P) w t o.type elem ie e2 f1 g k fj jd cur hg _ _ LC us (by rw [y3,f2]) uq y2 fM tS⟩;rw [hn];simp [aag,run_underlying e2,run_sizeOf w f1,abS,abY,IG,storeCells,loadCells,loadCellsFrom];cases base <;> simp [storeCells]
theorem A8 {sz:Nat} {es:List AV} (h:ga sz es) (hc:aZ es=true):jF sz es:=by
 induction es with
 |nil=>intro e he; cases he
 |cons x es ih=>
  have vu:(x.closed&&aZ es)=true:=hc;rw [aas] at vu;intro e he;rcases List.mem_cons.1 he with rfl|he
  ·exact ⟨(h e List.mem_cons_self).1,(h e List.mem_cons_self).2,vu.1⟩
  ·exact ih (fun e he=>h e (List.mem_cons_of_mem _ he)) vu.2 e he
theorem Pt (h:bi E R w β s a) {id f sz len:Nat} {es:List AV} {el:TypeId} {c:Value} (hid:nth s.G id=some (.da es sz el)) (hf:f=es.length) (hl:len=es.length) (lE:aZ es=true) (hc:Rel R w (.ey id f 0 sz len) c) :
  jF sz es∧∃ vs,aQ R w (aE es) vs∧(∀ v∈vs,v.oneCell'=true)∧vs.length=es.length * sz ∧
   ((es=[]∧vs=[]∧∃ ad,c=.slice ad 0 0)∨∃ b o' cap,c=.slice (some ⟨b,o',none⟩) es.length cap∧es.length≤cap∧(∀ j v,vs[j]?=some v→w.cell? ((⟨b,o',none⟩:Addr).add j)=some v)):=by
 cases hc with
 |mh h1 h2=>
  have he:es=[]:=abr hl.symm;subst he;exact ⟨(fun e he=>by cases he),[],.nil,by simp,by simp,.inl ⟨rfl,rfl,_,rfl⟩⟩
 | @ey _ _ _ _ _ cap b1 o1 ro h1 h2 h3=>
  have hn:ro≠.bj:=fun e=>by subst e; exact h2.elim
  obtain ⟨b,c',cur,vs,rfl,g0,g2,g3,g4,g5,g6,g7,g8,g9⟩:=vw h.g hid h1 hn;have g1:jF sz es:=A8 g0 lE;obtain ⟨rfl,k2,k3⟩:=h2.2 hf;refine ⟨g1,vs,g7,g8,by rw [← g7.length,fG g1],.inr ⟨_,_,_,by rw [hl],by omega,fun j v hj=>?_⟩⟩;rw [de];have hjl:j < vs.length:=(abp.1 hj).1;have ho:o1=0:=by
   rcases k3 with k3|k3
   ·rw [k3,acC]
   ·have:es.length=0:=by omega
    rw [← g7.length,fG g1,this,acC] at hjl;omega
  subst ho;rw [aaG,cell_of_row w b1 j cur el (0,0) g2];rw [← g9,abA] at hj;split at hj
  ·rw [← abt]; exact hj
  ·cases hj
theorem BL (h:bi E R w β s a) {args:Array Operand} {t:TypeId} (ho:o.op=.call { callee:=.builtin .append,args:=args,argTypes:=#[t,t] }) {x:AV} {id f sz len:Nat} {ys:List AV} {el:TypeId}
  (hl:rk E s.ab args.toList=some [x,.ey id f 0 sz len]) (hid:nth s.G id=some (.da ys sz el)) (hf:f=ys.length) (hlen:len=ys.length) (lE:aZ ys=true)
  {i:TI} (hi:E.ti t=some i) {elem esz eb:Nat} {ag:Bool} {z:AV} (hk:i.k=.sl elem esz ag eb (some z)) (LB:sz=esz) (Fb:1≤eb) (hz:z.cells.length=esz) (rH:z.ba=true)
  {v:AV} {G':List GO} (ha:gD s.G elem esz eb x ys=some (true,v,G')) :
  cq E R w β s a o ((s.bM G').put o.dst (.v v)):=by
 have hr:=j3 h hl;generalize hv:args.toList.map a.eval=vs at hr;have hx:=gX (E:=E) (w:=w) ho vs hv;cases hr with
 | @cons _ cx _ _ h0 h1=>
 cases h1 with
 | @cons _ cy _ _ h1 h2=>
 cases h2;obtain ⟨kr,u,e1,e2,e3,e4,e5,e6⟩:=dR E hi;have Ve:=hk;rw [hk] at e5;obtain ⟨ie,ue,rfl,f1,f2,f3,f4,f5,f6⟩:=fT e5;have wz:(⟨[cx,cy]⟩:Array Value)=#[cx,cy]:=rfl;subst LB;obtain ⟨y0,us,y1,y2,y3,y4⟩:=Pt h hid hf hlen lE h1;refine mm h (cx:=cx) (cy:=cy) (t:=t) (u:=t) (fun hh=>?_) Ve Fb hz rH f1 f2 f3 f6 h0 (fun zc sU=>?_) y0 y1 y2 y3 ha
 ·rw [hx];simp only [builtin,wz,ac0,hh,acy,ac8]
 ·rcases y4 with ⟨rfl,rfl,ad,rfl⟩|⟨by',oy,LC,rfl,aio,uq⟩
  ·refine ⟨fun _ base len cap IG=>?_,fun hh=>absurd hh (by simp),fun hh=>absurd hh (by simp),fun hh=>absurd hh (by simp)⟩;cases ad <;> simp [aag,run_underlying e2,run_sizeOf w f1,abS,abY,IG,storeCells,loadCells,loadCellsFrom] <;>
    cases base <;> simp [storeCells]
  ·refine ⟨fun hn base len cap IG=>?_,fun hh LD LF=>run_append_nil (P:=E.P) w t o.type elem ie zc e2 f1 sU _ _ LC us (by rw [y3,f2]) uq hh LD LF,fun _ b fj jd CS BK RK hg LD LF=>run_append_grow (P:=E.P) w t o.type elem ie zc e2 f1 sU b fj jd CS BK RK _ _ LC us (by rw [y3,f2]) uq hg LD LF,fun _ g k fj jd cur hg fM tS=>mj (P:=E.P) w t o.type elem ie e2 f1 g k fj jd cur hg _ _ LC us (by rw [y3,f2]) uq y2 fM tS⟩;rw [hn];simp [aag,run_underlying e2,run_sizeOf w f1,abS,abY,IG,storeCells,loadCells,loadCellsFrom];cases base <;> simp [storeCells]
theorem CT:∀ (bs:List UInt8),aQ R w (aE (bs.map Iy)) (acJ ⟨⟨bs⟩⟩)
 |[]=>.nil
 |b :: bs=>.cons (Rel.int .u8 b.toNat) (CT bs)
theorem BM (h:bi E R w β s a) {args:Array Operand} {t u:TypeId} (ho:o.op=.call { callee:=.builtin .append,args:=args,argTypes:=#[t,u] }) {x:AV} {bs:List UInt8}
  (hl:rk E s.ab args.toList=some [x,.str bs]) {i j:TI} (hi:E.ti t=some i) (hj:E.ti u=some j) {elem eb:Nat} {ag:Bool} {z:AV} (hk:i.k=.sl elem 1 ag eb (some z)) (hjk:j.k=.str) (Fb:1≤eb) (hz:z.cells.length=1) (rH:z.ba=true)
  {v:AV} {G':List GO} (ha:gD s.G elem 1 eb x (bs.map Iy)=some (true,v,G')) :
  cq E R w β s a o ((s.bM G').put o.dst (.v v)):=by
 have hr:=j3 h hl;generalize hv:args.toList.map a.eval=vs at hr;have hx:=gX (E:=E) (w:=w) ho vs hv;cases hr with
 | @cons _ cx _ _ h0 h1=>
 cases h1 with
 | @cons _ cy _ _ h1 h2=>
 cases h2;obtain ⟨kr,ud,e1,e2,e3,e4,e5,e6⟩:=dR E hi;obtain ⟨ak7,ud',g1,g2,g3,g4,g5,g6⟩:=dR E hj;rw [hjk] at g5;have:=ui g5;subst this;have Ve:=hk;rw [hk] at e5;obtain ⟨ie,ue,rfl,f1,f2,f3,f4,f5,f6⟩:=fT e5;cases h1;have gJ:(⟨⟨bs⟩⟩:ByteArray).size=bs.length:=rfl;have hlen:(bs.map Iy).length=bs.length:=List.length_map _;have wz:(⟨[cx,.string ⟨⟨bs⟩⟩]⟩:Array Value)=#[cx,.string ⟨⟨bs⟩⟩]:=rfl;have lE:(acJ ⟨⟨bs⟩⟩).length=bs.length:=adK _;refine mm h (cx:=cx) (cy:=.string ⟨⟨bs⟩⟩) (us:=acJ ⟨⟨bs⟩⟩) (t:=t) (u:=u) (fun hh=>?_) Ve Fb hz rH f1 f2 f3 f6 h0 (fun zc sU=>?_) ?_ (CT bs) (adN _) (by rw [lE,hlen,Nat.mul_one]) ha
 ·rw [hx];simp only [builtin,wz,ac0,hh,acy,ac8]
 ·rw [hlen];refine ⟨fun hn base len cap IG=>?_,fun hh LD LF=>?_,fun _ b fj jd CS BK RK hg LD LF=>Lib.run_append_grow_string (P:=E.P) w t u o.type elem ie zc e2 g2 f1 sU b fj jd CS BK RK ⟨⟨bs⟩⟩ hg LD LF,fun _ g k fj jd cur hg fM tS=>?_⟩
  ·have hb:bs=[]:=abr hn;subst hb;have hz0:(⟨⟨[]⟩⟩:ByteArray).size=0:=rfl;simp [hz0,aag,run_underlying e2,run_underlying g2,run_sizeOf w f1,abS,abY,IG,storeCells];cases base <;> simp [storeCells]
  ·rw [run_append_nil_string (P:=E.P) w t u o.type elem ie zc e2 g2 f1 sU ⟨⟨bs⟩⟩ hh LD LF];simp [acJ,gJ]
  ·have:=rJ (P:=E.P) w t u o.type elem ie e2 g2 f1 f2 g k fj jd cur hg ⟨⟨bs⟩⟩ fM (by rw [f2,Nat.mul_one,lE] at tS; exact tS);rw [this,f2,Nat.mul_one,lE];rfl
 ·intro e he;obtain ⟨b,_,rfl⟩:=List.mem_map.1 he;exact ⟨rfl,rfl,rfl⟩
def aj.CU (R:aj) (id:Nat) (ro:RO):aj:=⟨R.I,aC R.obj id .none++[ro]⟩
theorem rO {R:aj} {id i:Nat} {r0 ro r:RO} (hid:nth R.obj id=some r0) (h:nth (R.CU id ro).obj i=some r):(i=id∧r=.none)∨(i≠id∧nth R.obj i=some r)∨(i=R.obj.length∧r=ro):=by
 rcases ak h with h|⟨h1,h2⟩
 ·rcases aw hid h with h|h
  ·exact .inl h
  ·exact .inr (.inl h)
 ·refine .inr (.inr ⟨?_,h2⟩);rw [h1,fg,ade]
theorem Pu {id f b c k:Nat} (ro:RO) (hid:nth R.obj id=some (.tok f b c k)):Ext R w (R.CU id ro) w:=
 ⟨fun _ _ h=>h,fun _ _ _=>rfl,fun i r hr=>by
  by_cases e:id=i
  ·subst e;rw [hid] at hr;cases hr;exact ⟨.none,cF (au hid),trivial⟩
  ·exact ⟨r,cF (by rw [aX e]; exact hr),cQ.refl r⟩,ju.refl w⟩
theorem RL (h:bi E R w β s a) {f:FuncId} {s':St} (hs:Lc E f s o=some (true,s')):cq E R w β s a o s':=by
 unfold Lc at hs;split at hs
 ·rename_i t x lo d ho hd;split at hs
  ·split at hs
   ·rename_i i id sz es k n sQ hx BK;split at hs
    ·rename_i elem esz ag sE z f0 bP ety hk kp;split at hs
     ·rename_i dQ;simp only [aas] at dQ;have q1:=aaa dQ.1;have q2:=(aaa dQ.2).symm;subst q1; subst q2;injection hs with hs; injection hs with hc hs;subst hs;simp only [aas,decide_eq_true_eq] at hc;obtain ⟨B6,df,QO,Pl⟩:=hc;subst B6;obtain ⟨p,rfl⟩:∃ p:Nat,n=(p:Int):=⟨n.toNat,by omega⟩;rw [Int.toNat_natCast];have hp:p≤es.length:=by omega
      obtain ⟨kr,u,e1,e2,e3,e4,e5,e6⟩:=dR E sQ;rw [hk] at e5;obtain ⟨ie,ue,rfl,f1,f2,f3,f4,f5,f6⟩:=fT e5;have rx:=a6 h x;rw [hx] at rx;have fK:Rel R w (.list (.own id) sz es) (a.eval x):=rx;generalize jc:a.eval x=xv at fK;cases fK with
      |qJ _ _=>simp at df
      | @list _ _ _ b o' len cap hr hlen jZ Ll=>
       subst hlen;obtain ⟨ro,bu,A6⟩:=Ll;have b8:=h.g.obj id _ _ kp bu;cases ro with
       |none=>exact b8.elim
       |bj=>exact A6.elim
       |bZ _=>exact b8.elim
       |aY _=>exact b8.elim
       |tok f' g c k0=>
        obtain ⟨rfl,cur,mi,k1,k3,k4,k5⟩:=b8;obtain ⟨rfl,fQ,rfl⟩:=A6.2 rfl;have fQ:=fQ.resolve_right (by omega);subst fQ;have hl:pZ E s.ab (some lo)=some (some (.v (.int k (p:Int)))):=by simp [pZ,BK]
        have hb:GX es.length (some (.v (.int k (p:Int)))) none=some (true,p,es.length):=by
         have d:decide ((0:Int)≤(p:Int)∧(p:Int)≤(es.length:Int))=true:=decide_eq_true (by omega);simp only [GX,Cz,d,Int.toNat_natCast,Bool.and_self]
        obtain ⟨r1,_,_⟩:=fX (E:=E) true jZ (xY h hl) (xY h (show pZ E s.ab none=some none from rfl)) hb;have bL:(execOp a.eval o).run E.P w=.ok (.value (.slice (if cap=p then some ⟨b,o',none⟩ else some ⟨b,o'+p * sz,none⟩) (es.length - p) (cap - p))) w:=by
         simp only [execOp,ho,Instr.sliceAt,ac0,run_underlying e2,acy,Instr.slice,jc,r1,run_sizeOf w f1,f2,ac8,Option.map_some,Option.map_none,de] at *
        have e:=Pu (R:=R) (w:=w) (.tok (es.length - p) b (cap - p) (o'+p * sz)) bu;have hmul:(cap - p) * sz+p * sz=cap * sz:=by rw [← aar]; congr 1; omega
        have ak8:(es.length - p) * sz+p * sz=es.length * sz:=by rw [← aar]; congr 1; omega
        have live:∀ b',Live (R.CU id (.tok (es.length - p) b (cap - p) (o'+p * sz))) b'→Live R b':=fun b' hl=>by
         obtain ⟨i,r,h1,h2⟩:=hl;rcases rO bu h1 with ⟨_,rfl⟩|⟨_,h1⟩|⟨_,rfl⟩
         ·exact h2.elim
         ·exact ⟨i,r,h1,h2⟩
         ·exact ⟨id,_,bu,h2⟩
        have hG:bi E (R.CU id (.tok (es.length - p) b (cap - p) (o'+p * sz))) w β (s.bM (aC s.G id .dead++[.tok (es.length - p) sz ety])) a:=by
         refine ⟨⟨by simp [St.bM,aj.CU,fg,h.g.len],fun i gg r h1 h2=>?_,fun i j ri rj b' h1 h2 b1 b2=>?_,h.g.wf,fun g cs hg=>(h.g.ft g cs hg).mono e,h.g.lo⟩,h.b.bD e (fun _ _ _=>rfl) (fun _ _ _ _ hi=>hi) (fun _ _ _ hl=>live _ hl),h.t.mono e,h.n,h.d.mono e⟩
         ·simp only [St.bM] at h1;rcases rO bu h2 with ⟨rfl,rfl⟩|⟨LG,h2⟩|⟨h3,rfl⟩
          ·rw [cF (au kp)] at h1;cases h1;trivial
          ·rcases ak h1 with h1|⟨h3,_⟩
           ·rw [aX (adL LG)] at h1;exact (h.g.obj i gg r h1 h2).mono e (fun _ _=>rfl) (fun _ _ _ hi=>hi)
           ·have:=bl h2;rw [h3,fg,ade,h.g.len] at this;omega
          ·rcases ak h1 with h1|⟨_,rfl⟩
           ·have:=bl h1;rw [h3,fg,ade,h.g.len] at this;omega
           ·exact ⟨rfl,cur,mi,by omega,by omega,by omega,fun o2 ho2 hi=>k5 o2 (by omega) hi⟩
         ·rcases rO bu h1 with ⟨_,rfl⟩|⟨m1,h1⟩|⟨m1,rfl⟩
          ·exact b1.elim
          ·rcases rO bu h2 with ⟨_,rfl⟩|⟨m2,h2⟩|⟨m2,rfl⟩
           ·exact b2.elim
           ·exact h.g.inj i j ri rj b' h1 h2 b1 b2
           ·exact absurd (h.g.inj i id ri _ b' h1 bu b1 b2) m1
          ·rcases rO bu h2 with ⟨_,rfl⟩|⟨m2,h2⟩|⟨m2,rfl⟩
           ·exact b2.elim
           ·exact absurd (h.g.inj j id rj _ b' h2 bu b2 b1) m2
           ·omega
        have lI:Step R w β s.boxes (R.CU id (.tok (es.length - p) b (cap - p) (o'+p * sz))) w β s.boxes:=by
         refine ⟨e,rfl,rfl,rfl,aak _,fun _ _ _=>rfl,fun b' _ ho=>?_,fun _ _ h _ _=>h⟩;rcases ho with ho|ho
         ·exact .inl (live b' ho)
         ·exact .inr ho
        have wZ:nth (R.CU id (.tok (es.length - p) b (cap - p) (o'+p * sz))).obj s.G.length=some (.tok (es.length - p) b (cap - p) (o'+p * sz)):=by
         have:=eS (aC R.obj id .none) (RO.tok (es.length - p) b (cap - p) (o'+p * sz));rw [fg,ade,h.g.len,← fg] at this;exact this
        refine ⟨_,_,w,_,β,bL,.inl rfl,?_,by rw [bn]; exact lI⟩;rw [hd];refine hG.put (some d) (x:=.v (.list (.own s.G.length) sz (es.drop p))) ?_;by_cases Vf:cap=p
        ·rw [if_pos Vf];have he:es.drop p=[]:=abr (by rw [abN]; omega);exact Rel.list (by rw [he]; exact .nil) (by rw [abN]) (by omega) ⟨_,wZ,aak _,fun _=>⟨rfl,.inr (by omega),rfl⟩⟩
        ·rw [if_neg Vf];exact Rel.list ((zY p hr).mono e) (by rw [abN]) (by omega) ⟨_,wZ,aak _,fun _=>⟨rfl,.inl rfl,rfl⟩⟩
     ·cases hs
    ·cases hs
   ·cases hs
  ·cases hs
 ·cases hs
end ops
end Go.Am
namespace Go.Am
open Go
section
variable {E:Env} {R R':aj} {w w':World} {β:Nat→Nat} {s:St} {a:Act} {o:Oper}
theorem bi.aae (h:bi E R w β s a) {id sz:Nat} {e:TypeId} {rows:List (List AV)} (hid:nth s.G id=some (.iP rows sz e)) (n:Nat) {ro:RO} (bu:nth R.obj id=some ro) :
  ∃ ts,ro=.aY ts∧ts.length=rows.length∧bi E (R.reset id (.aY (ts++abK n .bj))) w β (s.bM (aC s.G id (.iP (rows++abK n []) sz e))) a∧Step R w β s.boxes (R.reset id (.aY (ts++abK n .bj))) w β s.boxes:=by
 have b8:=h.g.obj id _ _ hid bu;cases ro with
 |none=>exact b8.elim
 |bj=>exact b8.elim
 |bZ _=>exact b8.elim
 |tok _ _ _ _=>exact b8.elim
 |aY ts=>
 obtain ⟨q1,q2,q3⟩:=b8;have xe:∀ j f b c,nth (abK n TR.bj) j≠some (.tok f b c):=fun j f b c hj=>by
  rw [aV] at hj;have:=List.eq_of_mem_replicate (adp hj);cases this
 have nV:∀ b,RO.has (.aY (ts++abK n .bj)) b→RO.has (.aY ts) b:=fun b ⟨j,f,c,hj⟩=>by
  rcases bc hj with hj|⟨i,_,hi⟩
  ·exact ⟨j,f,c,hj⟩
  ·exact absurd hi (xe i f b c)
 have ext:Ext R w (R.reset id (.aY (ts++abK n .bj))) w:=rL bu (fun j t hj=>⟨t,nW hj,jV.refl t⟩) (Ext.refl R w);have live:∀ b,Live (R.reset id (.aY (ts++abK n .bj))) b→Live R b:=fun b ⟨i,r,h1,h2⟩=>by
  rcases aw bu h1 with ⟨_,rfl⟩|⟨_,h1⟩
  ·exact ⟨id,_,bu,nV b h2⟩
  ·exact ⟨i,r,h1,h2⟩
 refine ⟨ts,rfl,q1,⟨⟨by simp [St.bM,aj.reset,h.g.len],fun i g r h1 h2=>?_,fun i j ri rj b h1 h2 b1 b2=>?_,h.g.wf,fun g cs hg=>(h.g.ft g cs hg).mono ext,h.g.lo⟩,h.b.bD ext (fun _ _ _=>rfl) (fun _ _ _ _ h=>h) (fun _ _ _ hl=>live _ hl),h.t.mono ext,h.n,h.d.mono ext⟩,?_⟩
 ·rcases aw bu h2 with ⟨rfl,rfl⟩|⟨df,h2⟩
  ·simp only [St.bM] at h1;rw [au hid] at h1;cases h1;refine ⟨by simp [q1],fun i j f b c f' c' hi hj=>?_,fun j row t hf ht=>?_⟩
   ·rcases bc hi with hi|⟨_,_,hi⟩
    ·rcases bc hj with hj|⟨_,_,hj⟩
     ·exact q2 i j _ _ _ _ _ hi hj
     ·exact absurd hj (xe _ _ _ _)
    ·exact absurd hi (xe _ _ _ _)
   ·rcases bc hf with B6|⟨k,hk,B6⟩
    ·rcases bc ht with ht|⟨k',ly,ht⟩
     ·exact (q3 j row t B6 ht).mono ext fun _ _ _ _=>⟨rfl,fun _ h=>h⟩
     ·have:=bl B6;omega
    ·rcases bc ht with ht|⟨k',ly,ht⟩
     ·have:=bl ht;omega
     ·rw [aV] at ht B6;rw [List.eq_of_mem_replicate (adp ht),List.eq_of_mem_replicate (adp B6)];exact rfl
  ·simp only [St.bM] at h1;rw [aX (adL df)] at h1;exact (h.g.obj i g r h1 h2).mono ext (fun _ _=>rfl) (fun _ _ _ h=>h)
 ·rcases aw bu h1 with ⟨g3,e1⟩|⟨g3,g1⟩
  ·rcases aw bu h2 with ⟨g4,e2⟩|⟨g4,g2⟩
   ·omega
   ·rw [e1] at b1;exact g3.trans (h.g.inj id j _ _ b bu g2 (nV b b1) b2)
  ·rcases aw bu h2 with ⟨g4,e2⟩|⟨g4,g2⟩
   ·rw [e2] at b2;exact (h.g.inj i id _ _ b g1 bu b1 (nV b b2)).trans g4.symm
   ·exact h.g.inj i j ri rj b g1 g2 b1 b2
 ·refine ⟨ext,rfl,rfl,rfl,aak _,fun _ _ _=>rfl,fun b _ ho=>?_,fun _ _ h _ _=>h⟩;rcases ho with ho|ho
  ·exact .inl (live b ho)
  ·exact .inr ho
theorem bi.NP (h:bi E R w β s a) {id jR sz:Nat} {el:TypeId} {es:List AV} {rows:List (List AV)} (hg:nth s.G id=some (.da es sz el)) (hm:nth s.G jR=some (.iP rows sz el)) {ro:RO} {ts:List TR} (bu:nth R.obj id=some ro) (Yr:nth R.obj jR=some (.aY ts))
  {t:TR} (hle:cQ ro .none) (ht:FE R w sz el es t) (hh:∀ f x c,t=.tok f x c→ro.has x) :
  bi E ((R.reset id .none).reset jR (.aY (ts++[t]))) w β (s.bM (aC (aC s.G id .dead) jR (.iP (rows++[es]) sz el))) a∧Step R w β s.boxes ((R.reset id .none).reset jR (.aY (ts++[t]))) w β s.boxes:=by
 have df:id≠jR:=fun e=>by
  subst e;rw [hg] at hm;cases hm
 have Pv:nth (R.reset id .none).obj jR=some (.aY ts):=by rw [aj.reset,aX df]; exact Yr
 have U9:nth (aC s.G id .dead) jR=some (.iP rows sz el):=by rw [aX df]; exact hm
 obtain ⟨q1,q2,q3⟩:=h.g.obj jR _ _ hm Yr;have ext:Ext R w ((R.reset id .none).reset jR (.aY (ts++[t]))) w:=rL Pv (fun j t hj=>⟨t,nW hj,jV.refl t⟩) (Ext.refl (R.reset id .none) w) |> fun e=>(rL bu hle (Ext.refl R w)).trans e
 -- whose block a block is
 have nV:∀ x,RO.has (.aY (ts++[t])) x→RO.has (.aY ts) x∨ro.has x:=fun x ⟨j,f,c,hj⟩=>by
  rcases bc hj with hj|⟨i,_,hi⟩
  ·exact .inl ⟨j,f,c,hj⟩
  ·cases i with
   |zero=>cases hi; exact .inr (hh _ _ _ rfl)
   |succ i=>cases hi
 have IN:∀ i r x,nth ((R.reset id .none).reset jR (.aY (ts++[t]))).obj i=some r→r.has x→(i=jR∧RO.has (.aY ts) x)∨(i=jR∧ro.has x)∨(i≠jR∧i≠id∧nth R.obj i=some r):=fun i r x h1 h2=>by
  rcases aw Pv h1 with ⟨rfl,rfl⟩|⟨k1,h1⟩
  ·rcases nV x h2 with h2|h2
   ·exact .inl ⟨rfl,h2⟩
   ·exact .inr (.inl ⟨rfl,h2⟩)
  ·rcases aw bu h1 with ⟨rfl,rfl⟩|⟨k2,h1⟩
   ·exact h2.elim
   ·exact .inr (.inr ⟨k1,k2,h1⟩)
 have live:∀ x,Live ((R.reset id .none).reset jR (.aY (ts++[t]))) x→Live R x:=fun x ⟨i,r,h1,h2⟩=>by
  rcases IN i r x h1 h2 with ⟨_,k⟩|⟨_,k⟩|⟨_,_,k⟩
  ·exact ⟨jR,_,Yr,k⟩
  ·exact ⟨id,_,bu,k⟩
  ·exact ⟨i,r,k,h2⟩
 refine ⟨⟨⟨by simp [St.bM,aj.reset,h.g.len],fun i g r h1 h2=>?_,fun i j ri rj x h1 h2 b1 b2=>?_,h.g.wf,fun g cs hg=>(h.g.ft g cs hg).mono ext,h.g.lo⟩,h.b.bD ext (fun _ _ _=>rfl) (fun _ _ _ _ h=>h) (fun _ _ _ hl=>live _ hl),h.t.mono ext,h.n,h.d.mono ext⟩,?_⟩
 ·rcases aw Pv h2 with ⟨rfl,rfl⟩|⟨k1,h2⟩
  ·simp only [St.bM] at h1;rw [au U9] at h1;cases h1;have Vo:∀ i f b c f' c',nth ts i=some (.tok f b c)→t=.tok f' b c'→False:=fun i f b c f' c' hi ht=>df (h.g.inj id _ _ _ b bu Yr (hh _ _ _ ht) ⟨i,f,c,hi⟩)
   refine ⟨by simp [q1],fun i j f b c f' c' hi hj=>?_,fun j row t' hf wh=>?_⟩
   ·rcases bc hi with hi|⟨k,hk,hi⟩
    ·rcases bc hj with hj|⟨k',ly,hj⟩
     ·exact q2 i j _ _ _ _ _ hi hj
     ·cases k' with
      |zero=>simp only [nth,adS] at hj; exact (Vo _ _ _ _ _ _ hi hj).elim
      |succ _=>cases hj
    ·cases k with
     |succ _=>cases hi
     |zero=>
      rcases bc hj with hj|⟨k',ly,hj⟩
      ·simp only [nth,adS] at hi; exact (Vo _ _ _ _ _ _ hj hi).elim
      ·cases k' with
       |zero=>omega
       |succ _=>cases hj
   ·rcases bc hf with B6|⟨k,hk,B6⟩
    ·rcases bc wh with wh|⟨k',ly,wh⟩
     ·exact (q3 j row t' B6 wh).mono ext fun _ _ _ _=>⟨rfl,fun _ h=>h⟩
     ·have:=bl B6;omega
    ·rcases bc wh with wh|⟨k',ly,wh⟩
     ·have:=bl wh;omega
     ·have Ll:k=k':=by omega
      subst Ll;cases k with
      |succ _=>cases B6
      |zero=>
       cases B6; cases wh;exact ht.mono ext fun _ _ _ _=>⟨rfl,fun _ h=>h⟩
  ·simp only [St.bM] at h1;rw [aX (adL k1)] at h1;rcases aw bu h2 with ⟨rfl,rfl⟩|⟨k2,h2⟩
   ·rw [au hg] at h1;cases h1;exact trivial
   ·rw [aX (adL k2)] at h1;exact (h.g.obj i g r h1 h2).mono ext (fun _ _=>rfl) (fun _ _ _ h=>h)
 ·rcases IN i ri x h1 b1 with ⟨k1,k2⟩|⟨k1,k2⟩|⟨k1,k2,k3⟩
  ·rcases IN j rj x h2 b2 with ⟨l1,l2⟩|⟨l1,l2⟩|⟨l1,l2,l3⟩
   ·omega
   ·omega
   ·exact absurd (h.g.inj jR j _ _ x Yr l3 k2 b2).symm l1
  ·rcases IN j rj x h2 b2 with ⟨l1,l2⟩|⟨l1,l2⟩|⟨l1,l2,l3⟩
   ·omega
   ·omega
   ·exact absurd (h.g.inj id j _ _ x bu l3 k2 b2).symm l2
  ·rcases IN j rj x h2 b2 with ⟨l1,l2⟩|⟨l1,l2⟩|⟨l1,l2,l3⟩
   ·exact absurd (h.g.inj jR i _ _ x Yr k3 l2 b1).symm k1
   ·exact absurd (h.g.inj id i _ _ x bu k3 l2 b1).symm k2
   ·exact h.g.inj i j ri rj x k3 l3 b1 b2
 ·refine ⟨ext,rfl,rfl,rfl,aak _,fun _ _ _=>rfl,fun b _ ho=>?_,fun _ _ h _ _=>h⟩;rcases ho with ho|ho
  ·exact .inl (live b ho)
  ·exact .inr ho
theorem bi.aaf (h:bi E R w β s a) {id jR sz:Nat} {el:TypeId} {es:List AV} {rows:List (List AV)} (hg:nth s.G id=some (.da es sz el)) (hm:nth s.G jR=some (.iP rows sz el)) (lE:aZ es=true) :
  ∃ R',bi E R' w β (s.bM (aC (aC s.G id .dead) jR (.iP (rows++[es]) sz el))) a∧Step R w β s.boxes R' w β s.boxes∧∀ f len c,f=es.length→len=es.length→Rel R w (.ey id f 0 sz len) c→Rel R' w (.gH jR rows.length sz len) c:=by
 have df:id≠jR:=fun e=>by
  subst e;rw [hg] at hm;cases hm
 have ex:∀ {i:Nat} {g:GO},nth s.G i=some g→∃ ro,nth R.obj i=some ro:=fun {i g} hi=>by
  have:=bl hi;rw [← h.g.len] at this;exact ⟨R.obj[i],by rw [aV]; exact aaN this⟩
 obtain ⟨ro,bu⟩:=ex hg;obtain ⟨rm,hrm⟩:=ex hm;have b8:=h.g.obj id _ _ hg bu;have IP:=h.g.obj jR _ _ hm hrm;cases rm with
 |none=>exact IP.elim
 |bj=>exact IP.elim
 |bZ _=>exact IP.elim
 |tok _ _ _ _=>exact IP.elim
 |aY ts=>
 have hlen:ts.length=rows.length:=IP.1;have Pv:nth (R.reset id .none).obj jR=some (.aY ts):=by rw [aj.reset,aX df]; exact hrm
 cases ro with
 |none=>exact b8.elim
 |bZ _=>exact b8.elim
 |aY _=>exact b8.elim
 |bj=>
  have E2:es=[]:=b8;subst E2;obtain ⟨r1,r2⟩:=h.NP hg hm bu hrm (t:=.bj) trivial rfl (fun _ _ _ e=>by cases e);refine ⟨_,r1,r2,fun f len c e1 e2 hc=>?_⟩;subst e1; subst e2;cases hc with
  |mh _ _=>exact Rel.xQ (au Pv) trivial
  |ey hr fQ _=>
   rw [bu] at hr;cases hr;exact fQ.elim
 |tok f0 b c k=>
  obtain ⟨rfl,rfl,h1,cur,vs,h2,h3,h4,h5,h6,h7,h8,h9⟩:=b8;obtain ⟨r1,r2⟩:=h.NP hg hm bu hrm (t:=.tok es.length b c) trivial ⟨rfl,A8 h1 lE,cur,vs,h2,h3,h4,h5,h6,h7,h8,h9⟩ (fun _ _ _ e=>by cases e; exact rfl);refine ⟨_,r1,r2,fun f len c' e1 e2 hc=>?_⟩;subst e1; subst e2;generalize hl:es.length=n at hc;cases hc with
  |mh hr hon=>
   rw [bu] at hr;cases hr;have:1≤es.length:=hon;omega
  |ey hr fQ jZ=>
   rw [bu] at hr;cases hr;obtain ⟨p1,p2⟩:=fQ;obtain ⟨p3,p4,p5⟩:=p2 hl.symm;subst hl;refine Rel.gH (au Pv) ⟨.tok es.length b c,?_,aak _,fun _=>⟨p3,?_,by omega⟩⟩ jZ
   ·rw [← hlen,aV,abJ (aak _),adP];rfl
   ·rcases p5 with p5|p5
    ·exact .inl (by rw [p5,acC])
    ·exact .inr p5
theorem BN (h:bi E R w β s a) {args:Array Operand} {t:TypeId} (ho:o.op=.call { callee:=.builtin .append,args:=args,argTypes:=#[t,t] }) {id f off sz len rid cap y1 y2 y3 y4:Nat} {el:TypeId}
  (hl:rk E s.ab args.toList=some [.ey id f off sz len,.ob rid 0 1 1 cap]) (hid:nth s.G rid=some (.row [.gH y1 y2 y3 y4] el))
  {i:TI} (hi:E.ti t=some i) {elem esz eb:Nat} {ag:Bool} {z:AV} (hk:i.k=.sl elem esz ag eb (some z)) (LB:esz=1) (Fb:1≤eb) (hz:z.cells.length=esz) (rH:z.ba=true)
  {v:AV} {G':List GO} (ha:gD s.G elem esz eb (.ey id f off sz len) [.gH y1 y2 y3 y4]=some (true,v,G')) :
  cq E R w β s a o ((s.bM G').put o.dst (.v v)):=by
 have hr:=j3 h hl;generalize hv:args.toList.map a.eval=vs at hr;have hx:=gX (E:=E) (w:=w) ho vs hv;cases hr with
 | @cons _ cx _ _ h0 h1=>
 cases h1 with
 | @cons _ cy _ _ h1 h2=>
 cases h2;obtain ⟨kr,u,e1,e2,e3,e4,e5,e6⟩:=dR E hi;rw [hk] at e5;obtain ⟨ie,ue,rfl,f1,f2,f3,f4,f5,f6⟩:=fT e5;have wz:(⟨[cx,cy]⟩:Array Value)=#[cx,cy]:=rfl;subst LB;cases h1 with
 | @ob _ _ _ _ _ b hb jZ=>
 obtain ⟨us,k1,k2,k3,k4⟩:=h.g.obj rid _ _ hid hb;have NL:us.length=1:=k2.length.symm;have uq:∀ j v,us[j]?=some v→w.cell? ((⟨b,0,none⟩:Addr).add j)=some v:=fun j v hj=>by
  rw [de,aaG,cell_of_row w b j _ el (0,0) k1];simpa using hj
 unfold gD at ha;simp only at ha;split at ha
 ·rename_i es bP e' kp;split at ha
  ·rename_i dQ;simp only [aas] at dQ;obtain ⟨⟨q1,q2⟩,q3⟩:=dQ;have q1:=aaa q1;have q2:=aaa q2;have q3:=aaa q3;subst q1; subst q2; subst q3;injection ha with ha; injection ha with hc ha; injection ha with p q;subst p; subst q;simp only [aas,decide_eq_true_eq] at hc;refine tJ h (cx:=cx) (cy:=.slice (some ⟨b,0,none⟩) 1 cap) (t:=t) (u:=t) (us:=us) (fun hh=>?_) Fb hz rH f2 f3 f6 h0 (y:=.gH y1 y2 y3 y4) (ys:=[]) (fun zc sU=>?_) (fun e he=>?_) k2 k3 (by simpa using NL) kp hc.1.1.1 hc.1.1.2 hc.1.2 hc.2
   ·rw [hx];simp only [builtin,wz,ac0,hh,acy,ac8]
   ·refine ⟨fun hn=>absurd hn (by simp),fun hh LD LF=>run_append_nil (P:=E.P) w t o.type e' ie zc e2 f1 sU _ _ cap us (by rw [NL,f2]) uq hh LD LF,fun _ b fj jd CS BK RK hg LD LF=>run_append_grow (P:=E.P) w t o.type e' ie zc e2 f1 sU b fj jd CS BK RK _ _ cap us (by rw [NL,f2]) uq hg LD LF,fun _ g k fj jd cur hg fM tS=>mj (P:=E.P) w t o.type e' ie e2 f1 g k fj jd cur hg _ _ cap us (by rw [NL,f2]) uq k3 fM tS⟩
   ·rcases List.mem_cons.1 he with rfl|he
    ·exact ⟨rfl,rfl⟩
    ·cases he
  ·cases ha
 ·cases ha
def ur:List AV→Bool
 |[]=>true
 |.list .nil _ [] :: l=>ur l
 |_ :: _=>false
theorem FP {g:Nat→AV} (hg:∀ j,(g j).cells=[g j]) (hR:∀ j sz c,Rel R w (.list .nil sz []) c→Rel R w (g j) c):∀ {es:List AV} {vs:List Value} (k:Nat),ur es=true→aQ R w (aE es) vs→aQ R w (aE ((List.range' k es.length).map g)) vs
 |[],_,_,_,h=>h
 |e :: es,vs,k,hn,h=>by
  unfold ur at hn;split at hn
  ·rename_i h0; cases h0
  ·rename_i sz l h0;cases h0;simp only [aE,AV.cells,adM] at h;cases h with
   |cons h1 h2=>
   simp only [abu,List.range'_succ,List.map_cons,aE,hg,adM];exact .cons (hR k _ _ h1) (FP hg hR (k+1) hn h2)
  ·cases hn
theorem bi.RM (h:bi E R w β s a) {id:Nat} {es:List AV} {el:TypeId} (hid:nth s.G id=some (.da es 1 el)) (hn:ur es=true) {g:Nat→AV} (hg:∀ j,(g j).cells=[g j]) (ht:∀ j,(g j).ba=true) (hR:∀ j sz c,Rel R w (.list .nil sz []) c→Rel R w (g j) c) :
  bi E R w β (s.bM (aC s.G id (.da ((List.range es.length).map g) 1 el))) a∧Step R w β s.boxes R w β s.boxes:=by
 refine ⟨⟨⟨by simp [St.bM,h.g.len],fun i go r h1 h2=>?_,h.g.inj,h.g.wf,h.g.ft,h.g.lo⟩,h.b,h.t,h.n,h.d⟩,Step.refl _ _ _ _⟩;rcases cJ h1 with ⟨rfl,rfl,_⟩|⟨_,h1⟩
 ·have b8:=h.g.obj id _ _ hid h2;have hlen:((List.range es.length).map g).length=es.length:=by simp
  cases r with
  |none=>exact b8.elim
  |bZ _=>exact b8.elim
  |aY _=>exact b8.elim
  |bj=>
   have he:es=[]:=b8;subst he;exact rfl
  |tok f b c k=>
   obtain ⟨q1,q2,q3,cur,vs,q4,q5,q6,q7,q8,q9,q10,q11⟩:=b8;refine ⟨q1,by rw [hlen]; exact q2,fun e he=>?_,cur,vs,q4,q5,q6,q7,q8,?_,q10,q11⟩
   ·obtain ⟨j,_,rfl⟩:=List.mem_map.1 he;exact ⟨by rw [hg]; rfl,ht j⟩
   ·rw [List.range_eq_range'];exact FP hg hR 0 hn q9
 ·exact h.g.obj i go r h1 h2
end
end Go.Am
