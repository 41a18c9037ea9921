/- The abstract machine: what it does is what the model does: append and copy. -/
import Derived.Test.YtldcljfjjoidhaaGreatDoorAmKC
import Derived.Lib.AppendStr
set_option linter.all false
open Array renaming getElem?_toList→aaF, toList_append→abx, length_toList→aby, size_append→abI
open Bool renaming and_eq_true→aap
open Go.Builtin renaming zeroCells→aac, append_→aad, firstCells→abD, lenOf→abW
open Go.Lib renaming strCells→abU
open Go.Result renaming andThen_ok→ab1
open List renaming getElem?_append_left→aae, length_append→aah, getElem?_eq_getElem→aao, getElem?_eq_some_iff→aaZ, length_nil→aa1, eq_nil_of_length_eq_zero→aa2, size_toArray→aa3, append_assoc→aa4, getElem?_take→aa5, length_cons→aa7, getElem?_toArray→aa8, length_take→abT, getElem?_eq_none→abV
open Nat renaming eq_of_beq_eq_true→aab, le_refl→aaf, add_mul→aag, zero_add→aai, mul_le_mul_right→aa0, le_mul_of_pos_right→aa6, le_trans→abN, zero_mul→abS
namespace Go.Am
open Go
section fams
variable {E:Env} {R R':ak} {w w':World} {β β':Nat→Nat} {s s':St} {a a':Act} {o:Oper}
theorem wy {α:Type} {l r:List α} {i:Nat} {x:α} (h:nth l i=some x):nth (l++r) i=some x:=by
 have:=ca h;rw [bi] at *;rw [aae this];exact h
theorem dW {α:Type} {l r:List α} {i:Nat} {x:α} (h:nth (l++r) i=some x):nth l i=some x∨∃ j,i=l.length+j∧nth r j=some x:=by
 rw [bi] at h;rcases Nat.lt_or_ge i l.length with cm|lM
 ·rw [aae cm] at h;exact .inl (by rw [bi]; exact h)
 ·rw [List.getElem?_append_right lM] at h;exact .inr ⟨i - l.length,by omega,by rw [bi]; exact h⟩
theorem bt.VE (h:bt E R w β s a) {id sz:Nat} {e:TypeId} {fs:List Nat} (hid:nth s.G id=some (.bK fs sz e)) {nfs:List Nat} {nts:List TR} (hl:nts.length=nfs.length)
  (eN:∀ j f t,nth nfs j=some f→nth nts j=some t→AZ R w sz e f t) (uz:∀ j f b c,nth nts j≠some (.tok f b c)) {ro:RO} (b9:nth R.obj id=some ro) :
  ∃ ts,ro=.bK ts∧ts.length=fs.length∧bt E (R.reset id (.bK (ts++nts))) w β (s.cH (aI s.G id (.bK (fs++nfs) sz e))) a∧Step R w β s.boxes (R.reset id (.bK (ts++nts))) w β s.boxes:=by
 have cX:=h.g.obj id _ _ hid b9;cases ro with
 |none=>exact cX.elim
 |bU=>exact cX.elim
 |ck _=>exact cX.elim
 |tok _ _ _=>exact cX.elim
 |bK ts=>
 obtain ⟨q1,q2,q3⟩:=cX;have xS:∀ b,RO.has (.bK (ts++nts)) b→RO.has (.bK ts) b:=fun b ⟨j,f,c,hj⟩=>by
  rcases dW hj with hj|⟨i,_,hi⟩
  ·exact ⟨j,f,c,hj⟩
  ·exact absurd hi (uz i f b c)
 have ext:Ext R w (R.reset id (.bK (ts++nts))) w:=⟨fun _ _ h=>h,fun _ _ _=>rfl,fun i r hr=>by
  by_cases e:id=i
  ·subst e;rw [b9] at hr;cases hr;exact ⟨_,aQ b9,fun j t hj=>⟨t,wy hj,mq.refl t⟩⟩
  ·exact ⟨r,by rw [ak.reset,cq e]; exact hr,cJ.refl r⟩,gC.refl w⟩
 have live:∀ b,Live (R.reset id (.bK (ts++nts))) b→Live R b:=fun b ⟨i,r,h1,h2⟩=>by
  rcases aH b9 h1 with ⟨_,rfl⟩|⟨_,h1⟩
  ·exact ⟨id,_,b9,xS b h2⟩
  ·exact ⟨i,r,h1,h2⟩
 refine ⟨ts,rfl,q1,⟨⟨by simp [St.cH,ak.reset,h.g.len],fun i g r h1 h2=>?_,fun i j ri rj b h1 h2 b1 b2=>?_,h.g.wf,fun g cs hg=>(h.g.cr g cs hg).mono ext,h.g.lo⟩,h.b.aY ext (fun _ _ _=>rfl) (fun _ _ _ _ h=>h) (fun _ _ _ hl=>live _ hl),h.t.mono ext,h.n,h.d.mono ext⟩,?_⟩
 ·rcases aH b9 h2 with ⟨rfl,rfl⟩|⟨cS,h2⟩
  ·simp only [St.cH] at h1;rw [aQ hid] at h1;cases h1;refine ⟨by simp [q1,hl],fun i j f b c f' c' hi hj=>?_,fun j f t hf ht=>?_⟩
   ·rcases dW hi with hi|⟨_,_,hi⟩
    ·rcases dW hj with hj|⟨_,_,hj⟩
     ·exact q2 i j _ _ _ _ _ hi hj
     ·exact absurd hj (uz _ _ _ _)
    ·exact absurd hi (uz _ _ _ _)
   ·rcases dW hf with Ph|⟨k,hk,Ph⟩
    ·rcases dW ht with ht|⟨k',iJ,ht⟩
     ·exact q3 j f t Ph ht
     ·have:=ca Ph;omega
    ·rcases dW ht with ht|⟨k',iJ,ht⟩
     ·have:=ca ht;omega
     ·have Lb:k=k':=by omega
      subst Lb;exact eN k f t Ph ht
  ·simp only [St.cH] at h1;rw [cq (Ne.symm cS)] at h1;exact (h.g.obj i g r h1 h2).mono ext (fun _ _=>rfl) (fun _ _ _ h=>h)
 ·rcases aH b9 h1 with ⟨g3,e1⟩|⟨g3,g1⟩
  ·rcases aH b9 h2 with ⟨g4,e2⟩|⟨g4,g2⟩
   ·omega
   ·rw [e1] at b1;exact g3.trans (h.g.inj id j _ _ b b9 g2 (xS b b1) b2)
  ·rcases aH b9 h2 with ⟨g4,e2⟩|⟨g4,g2⟩
   ·rw [e2] at b2;exact (h.g.inj i id _ _ b g1 b9 b1 (xS b b2)).trans g4.symm
   ·exact h.g.inj i j ri rj b g1 g2 b1 b2
 ·refine ⟨ext,rfl,rfl,rfl,aaf _,fun _ _ _=>rfl,fun b _ ho=>?_,fun _ _ h _ _=>h⟩;rcases ho with ho|ho
  ·exact .inl (live b ho)
  ·exact .inr ho
theorem cu.step {s1:St} {s2:St} (e:s1.boxes=s.boxes) (st:Step R w β s.boxes R' w β s.boxes) (h:cu E R' w β s1 a o s2):cu E R w β s a o s2:=by
 obtain ⟨nx,x,w',R2,β',h1,h2,h3,h4⟩:=h;rw [e] at h4;exact ⟨nx,x,w',R2,β',h1,h2,h3,st.trans h4⟩
theorem ZS {c:Bool} {α:Type} {a b:α} (h:(bif c then some a else none)=some b):c=true∧a=b:=by
 cases c
 ·cases h
 ·exact ⟨rfl,Option.some.inj h⟩
theorem xX {sz:Nat} {e:TypeId}:∀ {G:List GO} {i j:Nat},lI G sz e i=some j→∃ fs,nth G (j - i)=some (.bK fs sz e)∧i≤j
 |[],i,j,h=>by cases h
 |g :: G,i,j,h=>by
  have step:lI G sz e (i+1)=some j→∃ fs,nth (g :: G) (j - i)=some (.bK fs sz e)∧i≤j:=fun h=>by
   obtain ⟨fs,h1,h2⟩:=xX h;refine ⟨fs,?_,by omega⟩;rw [show j - i=(j - (i+1))+1 by omega];exact h1
  unfold lI at h;split at h
  ·rename_i lN;cases lN
  ·rename_i lN;obtain ⟨rfl,rfl⟩:=List.cons.inj lN;split at h
   ·rename_i j' hj;cases h;exact step hj
   ·obtain ⟨hc,rfl⟩:=ZS h
    ·rw [aap] at hc;have h1:=aab hc.1;have h2:=aab hc.2;subst h1 h2;exact ⟨_,by rw [Nat.sub_self]; rfl,aaf _⟩
  ·rename_i x G1 _ _ _ hn lN;obtain ⟨rfl,rfl⟩:=List.cons.inj lN;exact step h
theorem bt.Lo {s0:St} {d:Option Tmp} {x y:AV} (h:bt E R w β (s0.put d (.v x)) a) (hw:∀ c,Rel R w x c→Rel R w y c):bt E R w β (s0.put d (.v y)) a:=by
 cases d with
 |none=>exact h
 |some d=>
  simp only [St.put] at h ⊢;cases hb:Nat.blt d s0.n with
  |false=>rw [hb] at h; exact h
  |true=>
   rw [hb] at h;refine ⟨h.g,h.b,fun i hi=>?_,h.n,h.d⟩;by_cases e:d=i
   ·subst e;rw [aA];obtain ⟨c,k1,k2⟩:=h.t d (by rw [aA]; simp);rw [aA] at k2;exact ⟨c,k1,hw c k2⟩
   ·rw [aS e] at hi ⊢;have:=h.t i (by rw [aS e]; exact hi);rw [aS e] at this;exact this
theorem cu.Lo {s0:St} {x y:AV} (h:cu E R w β s a o (s0.put o.dst (.v x))) (hw:∀ R' w',Ext R w R' w'→∀ c,Rel R' w' x c→Rel R' w' y c):cu E R w β s a o (s0.put o.dst (.v y)):=by
 obtain ⟨nx,v,w',R',β',h1,h2,h3,h4⟩:=h;refine ⟨nx,v,w',R',β',h1,h2,h3.Lo (hw R' w' h4.ext),?_⟩;rw [bc] at h4 ⊢;exact h4
end fams
section ops
variable {E:Env} {R:ak} {w:World} {β:Nat→Nat} {s:St} {a:Act} {o:Oper}
theorem ic {k:LK} {sz esz:Nat} {es:List AV} {c:Value} (h:Rel R w (.list k sz es) c) (e7:es=[]∨sz=esz) :
  jv esz es∧∃ vs,aN R w (aq es) vs∧(∀ v∈vs,v.oneCell'=true)∧vs.length=es.length * esz ∧
   ((es=[]∧vs=[]∧∃ ad,c=.slice ad 0 0∧(ad=none∨k=.ly))∨∃ b o' cap,c=.slice (some ⟨b,o',none⟩) es.length cap∧es.length≤cap∧B3 R k b o' es.length cap∧(∀ j v,vs[j]?=some v→w.cell? ((⟨b,o',none⟩:Addr).add j)=some v)∧gj R w b o' esz es):=by
 cases h with
 |kC=>exact ⟨fun e he=>by simp at he,[],.nil,by simp,by simp,.inl ⟨rfl,rfl,_,rfl,.inl rfl⟩⟩
 |jc=>exact ⟨fun e he=>by simp at he,[],.nil,by simp,by simp,.inl ⟨rfl,rfl,_,rfl,.inl rfl⟩⟩
 |nQ=>exact ⟨fun e he=>by simp at he,[],.nil,by simp,by simp,.inl ⟨rfl,rfl,_,rfl,.inr rfl⟩⟩
 |mN=>exact ⟨fun e he=>by simp at he,[],.nil,by simp,by simp,.inl ⟨rfl,rfl,_,rfl,.inl rfl⟩⟩
 |nR=>exact ⟨fun e he=>by simp at he,[],.nil,by simp,by simp,.inl ⟨rfl,rfl,_,rfl,.inl rfl⟩⟩
 | @list _ _ _ b o' len cap hr hlen ib Lb=>
  subst hlen;have ms:gj R w b o' esz es:=by
   rcases e7 with rfl|rfl
   ·exact .nil
   ·exact hr
  obtain ⟨g0,vs,g1,g2,g3,g4⟩:=xO ms;refine ⟨g0,vs,g1,g2,by rw [← g1.length,dO g0],.inr ⟨b,o',cap,rfl,ib,Lb,fun j v hv=>?_,ms⟩⟩;rw [cM];exact g3 j v hv
theorem sZ {b esz:Nat} {es:List AV} {vs:List Value} {w:World} {R:ak} (h0:jv esz es) (h:aN R w (aq es) vs) (h1:∀ v∈vs,v.oneCell'=true)
  (hc:∀ j v,vs[j]?=some v→w.cell? ⟨b,j,none⟩=some v) (hI:∀ j,j < vs.length→R.I b j):gj R w b 0 esz es:=
 mS h0 (dV.make h h1 (fun j v hv=>by rw [aai]; exact hc j v hv) (fun j hj=>by rw [aai]; exact hI j (by rw [← h.length]; exact hj)))
theorem lQ {sz:Nat} {l r:List AV} (h:jv sz l) (k:jv sz r):jv sz (l++r):=fun e he=>by
 rcases List.mem_append.1 he with he|he
 ·exact h e he
 ·exact k e he
theorem jf {l r:List Value} (h:∀ v∈l,v.oneCell'=true) (k:∀ v∈r,v.oneCell'=true):∀ v∈l++r,v.oneCell'=true:=fun v hv=>by
 rcases List.mem_append.1 hv with hv|hv
 ·exact h v hv
 ·exact k v hv
structure Apd (P:Program) (w:World) (t u ty e:TypeId) (i:TypeInfo) (z:Value) (cy:Value) (n:Nat) (us:List Value):Prop where
 zero:n=0→∀ base len cap,len≤cap→(aad #[t,u] ty #[.slice base len cap,cy]).run P w=.ok (.slice base len cap) w
 nil:0 < n→(n:Int)≤9223372036854775807→n * i.bytes≤281474976710656→(aad #[t,u] ty #[.slice none 0 0,cy]).run P w =
   .ok (.slice (some ⟨w.heap.size,0,none⟩) n (grownCap w n 0 e)) (w.drew.alloc (.cells (us.toArray++aac z.cells (grownCap w n 0 e - n)) e))
 grow:0 < n→∀ (b:Addr) (sLen pz:Nat) (F4:List Value),F4.length=sLen * i.size→(∀ j v,F4[j]?=some v→w.cell? (b.add j)=some v)→pz < sLen+n→((sLen+n:Nat):Int)≤9223372036854775807→Builtin.nextslicecap (sLen+n) pz * i.bytes≤281474976710656 →
   (aad #[t,u] ty #[.slice (some b) sLen pz,cy]).run P w=.ok (.slice (some ⟨w.heap.size,0,none⟩) (sLen+n) (grownCap w (sLen+n) pz e))
    (w.drew.alloc (.cells (F4.toArray++us.toArray++aac z.cells (grownCap w (sLen+n) pz e - (sLen+n))) e))
 room:0 < n→∀ (g sLen pz:Nat) (cur:Array Value),w.heap[g]?=some (.cells cur e (0,0))→sLen+n≤pz→sLen * i.size+us.length≤cur.size →
   (aad #[t,u] ty #[.slice (some ⟨g,0,none⟩) sLen pz,cy]).run P w=.ok (.slice (some ⟨g,0,none⟩) (sLen+n) pz) (w.setRow g (cur.toList.take (sLen * i.size)++us++cur.toList.drop (sLen * i.size+us.length)).toArray)
theorem wz (h:bt E R w β s a) {t u:TypeId} {id f off sz len:Nat} {y:AV} {ys:List AV} {cx cy:Value} {us:List Value}
  (fK:∀ {c:Value} {w':World},(aad #[t,u] o.type #[cx,cy]).run E.P w=.ok c w'→(execOp a.eval o).run E.P w=.ok (.value c) w')
  {elem esz eb:Nat} {z:AV} (HX:1≤eb) (hz:z.cells.length=esz) (sI:z.a8=true)
  {ie:TypeInfo} (f2:ie.size=esz) (f3:ie.bytes=eb) (f6:gb ie=some z)
  (h0:Rel R w (.eF id f off sz len) cx) (hA:∀ zc:Value,ie.zero=some zc→Apd E.P w t u o.type elem ie zc cy (y :: ys).length us)
  (y0:dM esz (y :: ys)) (y1:aN R w (aq (y :: ys)) us) (y2:∀ v∈us,v.oneCell'=true) (y3:us.length=(y :: ys).length * esz)
  {es:List AV} (hid:nth s.G id=some (.dZ es esz elem)) (hf:f=es.length) (ho0:off=0) (uv:len=f) (hb:(es.length+(y :: ys).length) * eb≤140737488355328) :
  cu E R w β s a o ((s.cH (aI s.G id (.dZ (es++(y :: ys)) esz elem))).put o.dst (.v (.eF id (es.length+(y :: ys).length) 0 esz (es.length+(y :: ys).length)))):=by
 obtain ⟨zc,tX,Fw⟩:=dp f6;have hA:=hA zc tX;obtain ⟨d1,d2⟩:=Rel.cells (Fw R w) sI;have qF:zc.cells.size=esz:=by rw [← hz,d1.length]; simp
 have nW:0 < (y :: ys).length:=by simp
 have hm:es.length+(y :: ys).length≤140737488355328:=abN (aa6 _ HX) hb;have DB:(es++(y :: ys)).length=es.length+(y :: ys).length:=aah
 -- where a new block has been made
 have fresh:∀ {xs:List Value} {old:Nat} {r0:RO},nth R.obj id=some r0→(∀ b c,cJ r0 (.tok (es.length+(y :: ys).length) b c))→dM esz es→aN R w (aq es) xs→(∀ v∈xs,v.oneCell'=true)→xs.length=es.length * esz →
   (aad #[t,u] o.type #[cx,cy]).run E.P w=.ok (.slice (some ⟨w.heap.size,0,none⟩) (es.length+(y :: ys).length) (grownCap w (es.length+(y :: ys).length) old elem)) (w.drew.alloc (.cells (xs.toArray++us.toArray++aac zc.cells (grownCap w (es.length+(y :: ys).length) old elem - (es.length+(y :: ys).length))) elem)) →
   cu E R w β s a o ((s.cH (aI s.G id (.dZ (es++(y :: ys)) esz elem))).put o.dst (.v (.eF id (es.length+(y :: ys).length) 0 esz (es.length+(y :: ys).length)))):=by
  intro xs old r0 b9 hle KJ ZT wo A9 bM;have lM:=grownCap_ge w (es.length+(y :: ys).length) old elem;obtain ⟨r1,r2⟩:=h.VD (cur:=xs.toArray++us.toArray++aac zc.cells (grownCap w (es.length+(y :: ys).length) old elem - (es.length+(y :: ys).length))) (vs:=xs++us) (es':=es++(y :: ys)) hid b9 (by rw [DB]; exact hle) (by rw [DB]; exact lM) (grownCap_le_maxLen w _ old elem (by unfold maxLen; omega)) (by
   simp only [abI,aa3,size_zeroCells,qF,A9,y3,← aag];congr 1;omega) (sY KJ y0) (by rw [c8]; exact ZT.append y1) (jf wo y2) (by
   rw [DB];simp only [abx];exact List.take_left' (by rw [aah,A9,y3,aag]))
  rw [DB] at r1 r2;refine ⟨_,_,_,_,β,fK bM,.inl rfl,r1.put o.dst ?_,by rw [bc]; exact r2⟩;exact Rel.eF (aQ b9) ⟨aaf _,fun _=>⟨rfl,aai _,.inl (abS _).symm⟩⟩ lM
 cases h0 with
 | @iY _ _ ro b9 hon=>
  have cX:=h.g.obj id _ _ hid b9;have he0:es=[]:=aa2 hf.symm;subst he0;cases ro with
  |none=>exact cX.elim
  |ck _=>exact cX.elim
  |bK _=>exact cX.elim
  |tok f' g c=>
   obtain ⟨rfl,_⟩:=cX;simp [nP] at hon
  |bU=>
   simp only [aa1] at hb;have bM:=hA.nil nW (by omega) (by rw [f3]; rw [aai] at hb; omega);exact fresh (xs:=[]) (old:=0) b9 (fun b c=>by simp only [cJ]; omega) (fun e he=>by simp at he) .nil (by simp) (by simp) (by simpa using bM)
 | @eF _ _ _ _ _ cap b o' ro b9 eN ib=>
  subst hf; subst ho0; subst uv;obtain ⟨b',c',cur,vs,rfl,g1,g2,g3,g4,g5,g6,g7,g8,g9⟩:=lP h.g hid b9 (fun k=>by subst k; exact eN);obtain ⟨rfl,HY,tY⟩:=eN.2 rfl;rw [aai] at HY;subst HY;have Uk:vs.length=es.length * esz:=by rw [← g7.length,dq g1]
  have fR:∀ j v,vs[j]?=some v→cur[j]?=some v:=fun j v hj=>by
   rw [← g9,aa5] at hj;split at hj
   ·rw [← aaF]; exact hj
   ·cases hj
  by_cases iL:es.length+(y :: ys).length≤cap
  ·have pd:o'=0:=by
    rcases tY with tY|tY
    ·rw [tY,abS]
    ·rw [aa7] at iL; omega
   subst pd;have hle:(es.length+(y :: ys).length) * esz≤cap * esz:=aa0 _ iL;have bM:=hA.room nW b es.length cap cur g2 iL (by rw [f2,y3,← aag,g5]; exact hle);rw [f2] at bM;have jo:cur.toList.length=cap * esz:=by rw [show cur.toList.length=cur.size from aby,g5]
   obtain ⟨r1,r2⟩:=h.PG (cur2:=(cur.toList.take (es.length * esz)++us++cur.toList.drop (es.length * esz+us.length)).toArray) (vs:=vs++us) (es':=es++(y :: ys)) hid b9 (by rw [DB]; omega) (by rw [DB]; exact iL) g2 (by
    rw [aa3,← aby];simp only [aah,abT,List.length_drop,y3,jo];rw [aag] at hle;omega) (sY g1 y0) (by rw [c8]; exact g7.append y1) (jf g8 y2) (by
    rw [DB,List.toList_toArray,g9];exact List.take_left' (by rw [aah,Uk,y3,aag]))
   rw [DB] at r1 r2;refine ⟨_,_,_,_,β,fK bM,.inl rfl,r1.put o.dst ?_,by rw [bc]; exact r2⟩;exact Rel.eF (aQ b9) ⟨aaf _,fun _=>⟨rfl,aai _,.inl (abS _).symm⟩⟩ iL
  ·have bM:=hA.grow nW ⟨b,o',none⟩ es.length cap vs (by rw [Uk,f2]) (fun j v hj=>by
    rw [cM];have Pe:=(aaZ.1 hj).1;have pd:o'=0:=by
     rcases tY with tY|tY
     ·rw [tY,abS]
     ·have:es.length=0:=by omega
      rw [Uk,this] at Pe;omega
    subst pd;rw [aai,cell_of_row w b j cur elem (0,0) g2];exact fR j v hj) (by omega) (by omega) (growslice_fits (by omega) (by rw [f3]; exact hb))
   exact fresh (xs:=vs) (old:=cap) b9 (fun b c=>⟨by omega,fun e=>by omega⟩) g1 g7 g8 Uk bM
theorem mV (h:bt E R w β s a) {t u:TypeId} {id j:Nat} {es:List AV} {y:AV} {ys:List AV} {cx cy:Value} {us:List Value}
  (fK:∀ {c:Value} {w':World},(aad #[t,u] o.type #[cx,cy]).run E.P w=.ok c w'→(execOp a.eval o).run E.P w=.ok (.value c) w')
  {elem esz eb:Nat} {z:AV} (HX:1≤eb) (hz:z.cells.length=esz) (sI:z.a8=true)
  {ie:TypeInfo} (f2:ie.size=esz) (f3:ie.bytes=eb) (f6:gb ie=some z)
  (h0:Rel R w (.list (.bK id j) esz es) cx) (hA:∀ zc:Value,ie.zero=some zc→Apd E.P w t u o.type elem ie zc cy (y :: ys).length us)
  (y0:jv esz (y :: ys)) (y1:aN R w (aq (y :: ys)) us) (y2:∀ v∈us,v.oneCell'=true) (y3:us.length=(y :: ys).length * esz)
  {fs:List Nat} (iH:nth s.G id=some (.bK fs esz elem)) (vw:nth fs j=some es.length) (hb:(es.length+(y :: ys).length) * eb≤140737488355328) :
  cu E R w β s a o ((s.cH (aI s.G id (.bK (aI fs j (es.length+(y :: ys).length)) esz elem))).put o.dst (.v (.list (.bK id j) esz (es++(y :: ys))))):=by
 obtain ⟨zc,tX,Fw⟩:=dp f6;have hA:=hA zc tX;obtain ⟨d1,d2⟩:=Rel.cells (Fw R w) sI;have qF:zc.cells.size=esz:=by rw [← hz,d1.length]; simp
 have nW:0 < (y :: ys).length:=by simp
 have hm:es.length+(y :: ys).length≤140737488355328:=abN (aa6 _ HX) hb;obtain ⟨x0,xs,x1,x2,x3,x4⟩:=ic (esz:=esz) h0 (.inr rfl);obtain ⟨ro,b9⟩:∃ ro,nth R.obj id=some ro:=by
  cases h0 with
  |nR q _=>exact ⟨_,q⟩
  |list _ _ _ hk=>obtain ⟨ro,q,_⟩:=hk; exact ⟨ro,q⟩
 have cX:=h.g.obj id _ _ iH b9;cases ro with
 |none=>exact cX.elim
 |bU=>exact cX.elim
 |ck _=>exact cX.elim
 |tok _ _ _=>exact cX.elim
 |bK ts=>
 have cX:xD R w esz elem fs ts:=cX;have hjl:j < ts.length:=by rw [cX.1]; exact ca vw
 obtain ⟨tr,ht⟩:∃ tr,nth ts j=some tr:=⟨ts[j],by rw [bi]; exact aao hjl⟩;have nJ:=cX.2.2 j _ _ vw ht;have DC:∀ i f b c,nth ts i=some (.tok f b c)→b < w.heap.size:=fun i f b c hi=>h.g.cj ⟨id,_,b9,i,f,c,hi⟩
 -- where a new block has been made
 have fresh:∀ {old:Nat},(∀ b c,mq tr (.tok (es.length+(y :: ys).length) b c)) →
   (aad #[t,u] o.type #[cx,cy]).run E.P w=.ok (.slice (some ⟨w.heap.size,0,none⟩) (es.length+(y :: ys).length) (grownCap w (es.length+(y :: ys).length) old elem)) (w.drew.alloc (.cells (xs.toArray++us.toArray++aac zc.cells (grownCap w (es.length+(y :: ys).length) old elem - (es.length+(y :: ys).length))) elem)) →
   cu E R w β s a o ((s.cH (aI s.G id (.bK (aI fs j (es.length+(y :: ys).length)) esz elem))).put o.dst (.v (.list (.bK id j) esz (es++(y :: ys))))):=by
  intro old hle bM;have lM:=grownCap_ge w (es.length+(y :: ys).length) old elem;have ZU:=grownCap_le_maxLen w (es.length+(y :: ys).length) old elem (by unfold maxLen; omega);have Un:(xs.toArray++us.toArray++aac zc.cells (grownCap w (es.length+(y :: ys).length) old elem - (es.length+(y :: ys).length))).size=grownCap w (es.length+(y :: ys).length) old elem * esz:=by
   simp only [abI,aa3,size_zeroCells,qF,x3,y3,← aag];congr 1;omega
  generalize iZ:xs.toArray++us.toArray++aac zc.cells (grownCap w (es.length+(y :: ys).length) old elem - (es.length+(y :: ys).length))=cur at bM Un;have o1:=One.drew w (.cells cur elem);obtain ⟨r1,r2⟩:=h.Vy o1 (n:=(es.length+(y :: ys).length) * esz) (r1:=.bK (aI ts j (.tok (es.length+(y :: ys).length) w.heap.size (grownCap w (es.length+(y :: ys).length) old elem)))) (go:=.bK (aI fs j (es.length+(y :: ys).length)) esz elem) iH b9
   (ul.set ht (hle _ _)) (fun b hb=>HT hb) (xD.set cX ⟨rfl,cur,o1.new,lM,ZU,Un,fun o' pd hi=>by
    rcases hi with hi|⟨_,hi⟩
    ·have:=h.g.wf _ _ hi;omega
    ·omega⟩ (fun i f c hi=>absurd (DC i f _ c hi) (Nat.lt_irrefl _)) (fun i f b c _ hi=>⟨o1.old b (DC i f b c hi),fun o' pd=>by
     rcases pd with pd|⟨pd,_⟩
     ·exact pd
     ·have:=DC i f b c hi;omega⟩))
  have e:=r2.ext;refine ⟨_,_,_,_,β,fK bM,.inl rfl,r1.put o.dst ?_,by rw [bc]; exact r2⟩;refine Rel.list (sZ (vs:=xs++us) (lQ x0 y0) (by rw [c8]; exact (x1.mono e).append (y1.mono e)) (jf x2 y2) (fun j v hj=>?_) (fun j hj=>.inr ⟨rfl,by rw [aah,x3,y3,← aag] at hj; exact hj⟩)) (by simp) lM ⟨_,aQ b9,_,aQ ht,aaf _,fun _=>⟨rfl,rfl,rfl⟩⟩;rw [cell_of_row _ _ j _ _ _ o1.new,← iZ];have cm:=(aaZ.1 hj).1;rw [← aaF];simp only [abx,aa4];rw [← aa4,aae cm];exact hj
 rcases x4 with ⟨rfl,rfl,ad,rfl,hd⟩|⟨b,o',cap,rfl,ZV,xk,vz,xE⟩
 ·obtain rfl:ad=none:=by
   rcases hd with hd|hd
   ·exact hd
   ·cases hd
  simp only [aa1] at hb nJ;have bM:=hA.nil nW (by simp only [aa1] at hm; omega) (by rw [f3]; rw [aai] at hb; omega);cases tr with
  |bU=>exact fresh (old:=0) (fun b c=>by simp only [mq,aa7]; omega) (by simpa using bM)
  |full f'=>
   have nJ:f'=0:=nJ;subst nJ;exact fresh (old:=0) (fun b c=>by simp only [mq,aa7]; omega) (by simpa using bM)
  |tok f' g c=>
   obtain ⟨nJ,_⟩:=nJ;subst nJ;exact fresh (old:=0) (fun b c=>by simp only [mq,aa7,aa1]; omega) (by simpa using bM)
 ·obtain ⟨mO,ZW,wS⟩:=xk;rw [b9] at ZW;cases ZW;obtain ⟨t',q3,wS⟩:=wS;rw [ht] at q3;cases q3;cases tr with
  |bU=>exact wS.elim
  |full f'=>
   have hf:f'=es.length:=nJ;subst hf;have ib:=wS.2 rfl;subst ib;have bM:=hA.grow nW ⟨b,o',none⟩ es.length es.length xs (by rw [x3,f2]) vz (by omega) (by omega) (growslice_fits (by omega) (by rw [f3]; exact hb));exact fresh (fun b c=>by simp only [mq]; omega) bM
  |tok f' g c=>
   obtain ⟨rfl,cur,iZ,k1,k3,k4,k5⟩:=nJ;obtain ⟨rfl,rfl,rfl⟩:=wS.2 rfl;by_cases iL:es.length+(y :: ys).length≤cap
   ·have hle:(es.length+(y :: ys).length) * esz≤cap * esz:=aa0 _ iL;have bM:=hA.room nW b es.length cap cur iZ iL (by rw [f2,y3,← aag,k4]; exact hle);rw [f2] at bM;generalize Lp:(cur.toList.take (es.length * esz)++us++cur.toList.drop (es.length * esz+us.length)).toArray=cur2 at bM;have jo:cur.toList.length=cap * esz:=by rw [show cur.toList.length=cur.size from aby,k4]
    have hll:es.length * esz≤cap * esz:=aa0 _ k1;have Jo:cur2.size=cap * esz:=by
     rw [← Lp,aa3];simp only [aah,abT,List.length_drop,y3,jo];rw [aag] at hle;omega
    have xT:∀ o',R.I b o'→cur2[o']?=cur[o']?:=fun o' hi=>by
     have ho:o' < es.length * esz:=Nat.lt_of_not_le fun hle=>k5 o' hle hi
     rw [← Lp,aa4];simp only [aa8];rw [aae (by rw [abT]; omega),aa5,if_pos ho,aaF]
    have new:(w.setRow b cur2).heap[b]?=some (.cells cur2 elem (0,0)):=setRow_heap w b cur cur2 elem (0,0) iZ;obtain ⟨r0,r1,r2⟩:=h.PF (cur2:=cur2) (n:=(es.length+(y :: ys).length) * esz) (r1:=.bK (aI ts j (.tok (es.length+(y :: ys).length) b cap))) (go:=.bK (aI fs j (es.length+(y :: ys).length)) esz elem) iH b9 ⟨j,_,_,ht⟩
     (ul.set ht ⟨by omega,fun e=>by omega⟩) (fun b' gJ=>(HT gJ).elim (fun e=>by rw [e]; exact ⟨j,_,_,ht⟩) (fun x=>x)) iZ xT (fun _=>xD.set cX ⟨rfl,cur2,new,iL,k3,Jo,fun o' pd hi=>by
      rcases hi with hi|⟨_,hi⟩
      ·exact k5 o' (abN (aa0 _ (Nat.le_add_right _ _)) pd) hi
      ·omega⟩ (fun i f c hi=>cX.2.1 i j _ _ _ _ _ hi ht) (fun i f b' c cS hi=>by
       have YR:b'≠b:=fun e=>by subst e; exact cS (cX.2.1 i j _ _ _ _ _ hi ht)
       refine ⟨setRow_other w b b' cur2 YR,fun o' pd=>?_⟩;rcases pd with pd|⟨pd,_⟩
       ·exact pd
       ·exact absurd pd YR))
    refine ⟨_,_,_,_,β,fK bM,.inl rfl,r1.put o.dst ?_,by rw [bc]; exact r2⟩;have PH:cur.toList.take (es.length * esz)=xs:=by
     have DD:xs.length=es.length * esz:=x3;apply List.ext_getElem?;intro j;rw [aa5];split
     ·rename_i hj;have Pe:j < xs.length:=by omega
      have oW:=vz j xs[j] (aao Pe);rw [cM,aai,cell_of_row w b j cur elem (0,0) iZ] at oW;rw [aaF,oW,aao Pe]
     ·rw [abV (by omega)]
    refine Rel.list (sZ (vs:=xs++us) (lQ x0 y0) (by rw [c8]; exact (x1.mono r0).append (y1.mono r0)) (jf x2 y2) (fun j v hj=>?_) (fun j hj=>.inr ⟨rfl,by rw [aah,x3,y3,← aag] at hj; exact hj⟩)) (by simp) iL ⟨_,aQ b9,_,aQ ht,aaf _,fun _=>⟨rfl,rfl,rfl⟩⟩;rw [cell_of_row _ _ j _ _ _ new,← Lp,PH];simp only [aa8];rw [aae (aaZ.1 hj).1];exact hj
   ·have bM:=hA.grow nW ⟨b,0,none⟩ es.length cap xs (by rw [x3,f2]) vz (by omega) (by omega) (growslice_fits (by omega) (by rw [f3]; exact hb));exact fresh (fun b c=>⟨by omega,fun e=>by omega⟩) bM
theorem wA (h:bt E R w β s a) {t u:TypeId} {id j:Nat} {es:List AV} {y:AV} {ys:List AV} {cx cy:Value} {us:List Value}
  (fK:∀ {c:Value} {w':World},(aad #[t,u] o.type #[cx,cy]).run E.P w=.ok c w'→(execOp a.eval o).run E.P w=.ok (.value c) w')
  {elem esz eb:Nat} {z:AV} (HX:1≤eb) (hz:z.cells.length=esz) (sI:z.a8=true)
  {ie:TypeInfo} (f2:ie.size=esz) (f3:ie.bytes=eb) (f6:gb ie=some z)
  (h0:Rel R w (.list (.bK id j) esz es) cx) (hA:∀ zc:Value,ie.zero=some zc→Apd E.P w t u o.type elem ie zc cy (y :: ys).length us)
  (y0:jv esz (y :: ys)) (y1:aN R w (aq (y :: ys)) us) (y2:∀ v∈us,v.oneCell'=true) (y3:us.length=(y :: ys).length * esz)
  {fs:List Nat} (iH:nth s.G id=some (.bK fs esz elem)) (vw:Pw fs j es.length=true) (hb:(es.length+(y :: ys).length) * eb≤140737488355328) :
  cu E R w β s a o ((s.cH (aI s.G id (.bK (Ja fs j (es.length+(y :: ys).length)) esz elem))).put o.dst (.v (.list (.bK id j) esz (es++(y :: ys))))):=by
 unfold Pw at vw;rw [Bool.or_eq_true,decide_eq_true_eq,aap] at vw;rcases vw with vw|⟨hj,hl⟩
 ·have cS:Nat.beq j fs.length=false:=by
   cases hb:Nat.beq j fs.length with
   |false=>rfl
   |true=>
    have:=aab hb;have:=ca vw;omega
  unfold Ja;rw [cS];exact mV h fK HX hz sI f2 f3 f6 h0 hA y0 y1 y2 y3 iH vw hb
 ·have xY:Ja fs j (es.length+(y :: ys).length)=fs++[es.length+(y :: ys).length]:=by
   unfold Ja;rw [hj];rfl
  rw [xY];have hj:=aab hj;have hl:=aab hl;subst hj;have cm:=ca iH;rw [← h.g.len] at cm;obtain ⟨ro,b9⟩:∃ ro,nth R.obj id=some ro:=⟨R.obj[id],by rw [bi]; exact aao cm⟩;obtain ⟨ts,rfl,z1,z2,z3⟩:=h.VE iH (nfs:=[0]) (nts:=[.bU]) rfl (fun j f t h1 h2=>by
   cases j with
   |zero=>simp only [nth] at h1 h2; cases h1; cases h2; exact rfl
   |succ j=>simp [nth] at h1) (fun j f b c hj=>by
   cases j with
   |zero=>simp only [nth] at hj; cases hj
   |succ j=>simp [nth] at hj) b9
  have key:=mV z2 fK HX hz sI f2 f3 f6 (h0.mono z3.ext) hA y0 (y1.mono z3.ext) y2 y3 (fs:=fs++[0]) (aQ iH) (by rw [hl]; exact eQ _ _) hb;have e1:aI (fs++[0]) fs.length (es.length+(y :: ys).length)=fs++[es.length+(y :: ys).length]:=by
   rw [gk,List.set_append_right _ _ (aaf _),Nat.sub_self];rfl
  have e2:∀ x y:GO,aI (aI s.G id x) id y=aI s.G id y:=fun x y=>by rw [gk,gk,gk,List.set_set]
  rw [e1] at key;refine cu.step rfl z3 ?_;have e3:((s.cH (aI s.G id (.bK (fs++[0]) esz elem))).cH (aI (s.cH (aI s.G id (.bK (fs++[0]) esz elem))).G id (.bK (fs++[es.length+(y :: ys).length]) esz elem)))=s.cH (aI s.G id (.bK (fs++[es.length+(y :: ys).length]) esz elem)):=by
   simp only [St.cH,e2]
  rw [e3] at key;exact key
theorem mW (h:bt E R w β s a) {t u:TypeId} {x:AV} {ys:List AV} {cx cy:Value} {us:List Value}
  (fK:∀ {c:Value} {w':World},(aad #[t,u] o.type #[cx,cy]).run E.P w=.ok c w'→(execOp a.eval o).run E.P w=.ok (.value c) w')
  {i:TI} {elem esz eb:Nat} {ag:Bool} {z:AV} (hk:i.k=.sl elem esz ag eb (some z)) (HX:1≤eb) (hz:z.cells.length=esz) (sI:z.a8=true)
  {ie:TypeInfo} (f1:E.P.info? elem=some ie) (f2:ie.size=esz) (f3:ie.bytes=eb) (f6:gb ie=some z)
  (h0:Rel R w x cx) (hA:∀ zc:Value,ie.zero=some zc→Apd E.P w t u o.type elem ie zc cy ys.length us)
  (y0:jv esz ys) (y1:aN R w (aq ys) us) (y2:∀ v∈us,v.oneCell'=true) (y3:us.length=ys.length * esz)
  {v:AV} {G':List GO} (ha:gd s.G elem esz eb x ys=some (true,v,G')) :
  cu E R w β s a o ((s.cH G').put o.dst (.v v)):=by
 obtain ⟨zc,tX,Fw⟩:=dp f6;have hA':=hA;have hA:=hA zc tX;obtain ⟨d1,d2⟩:=Rel.cells (Fw R w) sI;have qF:zc.cells.size=esz:=by rw [← hz,d1.length]; simp
 unfold gd at ha;split at ha
 ·-- nothing is appended
  rename_i k sz es;have ZO:us=[]:=aa2 (by simpa using y3);have hG:G'=s.G∧Rel R w v cx:=by
   split at ha
   ·injection ha with ha; injection ha with _ ha; injection ha with p q;subst p; subst q;exact ⟨rfl,h0⟩
   ·injection ha with ha; injection ha with _ ha; injection ha with p q;subst p; subst q;exact ⟨rfl,h0⟩
  obtain ⟨rfl,hvr⟩:=hG;refine ao (s:=s) h (c:=cx) (fK ?_) hvr;cases h0 with
  |kC=>exact hA.zero rfl _ _ _ (aaf 0)
  |jc=>exact hA.zero rfl _ _ _ (aaf 0)
  |nQ=>exact hA.zero rfl _ _ _ (aaf 0)
  |mN=>exact hA.zero rfl _ _ _ (aaf 0)
  |nR=>exact hA.zero rfl _ _ _ (aaf 0)
  |list hr hlen ib _=>exact hA.zero rfl _ _ _ ib
 ·-- something is appended
  rename_i k sz es y ys hA;have nW:0 < (y :: ys).length:=by simp
  -- what is shown where a new block has been made
  have grown:∀ {n old:Nat} {xs:List Value} {es':List AV},(es'.length=n)→jv esz es'→aN R w (aq es') xs→(∀ v∈xs,v.oneCell'=true)→xs.length=n * esz →
    (n+(y :: ys).length) * eb≤140737488355328→n+(y :: ys).length≤maxLen→∀ (R':ak) (G2:List GO) (id:Nat),
    bt E R' (w.drew.alloc (.cells (xs.toArray++us.toArray++aac zc.cells (grownCap w (n+(y :: ys).length) old elem - (n+(y :: ys).length))) elem)) β (s.cH G2) a →
    Step R w β s.boxes R' (w.drew.alloc (.cells (xs.toArray++us.toArray++aac zc.cells (grownCap w (n+(y :: ys).length) old elem - (n+(y :: ys).length))) elem)) β s.boxes →
    (∀ j,j < (n+(y :: ys).length) * esz→R'.I w.heap.size j)→nth R'.obj id=some (.tok (n+(y :: ys).length) w.heap.size (grownCap w (n+(y :: ys).length) old elem)) →
    (aad #[t,u] o.type #[cx,cy]).run E.P w=.ok (.slice (some ⟨w.heap.size,0,none⟩) (n+(y :: ys).length) (grownCap w (n+(y :: ys).length) old elem)) (w.drew.alloc (.cells (xs.toArray++us.toArray++aac zc.cells (grownCap w (n+(y :: ys).length) old elem - (n+(y :: ys).length))) elem)) →
    cu E R w β s a o ((s.cH G2).put o.dst (.v (.list (.own id) esz (es'++(y :: ys))))):=by
   intro n old xs es' B6 VF ZT wo A9 _ _ R' G2 id cX HZ hI hid bM;refine ⟨_,_,_,R',β,fK bM,.inl rfl,cX.put o.dst ?_,by rw [bc]; exact HZ⟩;have e:=HZ.ext;refine Rel.list (sZ (vs:=xs++us) (lQ VF y0) (by rw [c8]; exact (ZT.mono e).append (y1.mono e)) (jf wo y2) (fun j v hj=>?_) (fun j hj=>hI j (by rw [aah,A9,y3,← aag] at hj; exact hj))) (by simp [B6]) (grownCap_ge w _ _ _) ⟨_,hid,aaf _,fun _=>⟨rfl,rfl,rfl⟩⟩;have mU:(w.drew.alloc (.cells (xs.toArray++us.toArray++aac zc.cells (grownCap w (n+(y :: ys).length) old elem - (n+(y :: ys).length))) elem)).heap[w.heap.size]?=some (.cells (xs.toArray++us.toArray++aac zc.cells (grownCap w (n+(y :: ys).length) old elem - (n+(y :: ys).length))) elem (0,0)):=heap_alloc_new w.drew _;rw [cell_of_row _ _ j _ _ _ mU];have cm:=(aaZ.1 hj).1;rw [← aaF];simp only [abx,aa4];rw [← aa4,aae cm];exact hj
  have Lq:∀ {n old:Nat} {xs:List Value},xs.length=n * esz→n+(y :: ys).length≤maxLen→(xs.toArray++us.toArray++aac zc.cells (grownCap w (n+(y :: ys).length) old elem - (n+(y :: ys).length))).size=grownCap w (n+(y :: ys).length) old elem * esz:=by
   intro n old xs A9 _;have lM:=grownCap_ge w (n+(y :: ys).length) old elem;simp only [abI,aa3,size_zeroCells,qF,A9,y3,← aag];congr 1;omega
  have fresh:∀ {n old:Nat} {xs:List Value} {es':List AV},(es'.length=n)→jv esz es'→aN R w (aq es') xs→(∀ v∈xs,v.oneCell'=true)→xs.length=n * esz →
    (n+(y :: ys).length) * eb≤140737488355328→n+(y :: ys).length≤maxLen →
    (aad #[t,u] o.type #[cx,cy]).run E.P w=.ok (.slice (some ⟨w.heap.size,0,none⟩) (n+(y :: ys).length) (grownCap w (n+(y :: ys).length) old elem)) (w.drew.alloc (.cells (xs.toArray++us.toArray++aac zc.cells (grownCap w (n+(y :: ys).length) old elem - (n+(y :: ys).length))) elem)) →
    cu E R w β s a o ((s.cH (s.G++[.tok (n+(y :: ys).length) esz elem])).put o.dst (.v (.list (.own s.G.length) esz (es'++(y :: ys))))):=by
   intro n old xs es' B6 VF ZT wo A9 hb hm bM;obtain ⟨r1,r2⟩:=h.Vw (cur:=xs.toArray++us.toArray++aac zc.cells (grownCap w (n+(y :: ys).length) old elem - (n+(y :: ys).length))) (elem:=elem) (grownCap_ge w (n+(y :: ys).length) old elem) (grownCap_le_maxLen w _ old elem hm) (Lq A9 hm);exact grown B6 VF ZT wo A9 hb hm _ _ _ r1 r2 (fun j hj=>.inr ⟨rfl,hj⟩) (by rw [← h.g.len]; exact eQ _ _) bM
  have Pj:∀ {n:Nat},(n+(y :: ys).length) * eb≤140737488355328→n+(y :: ys).length≤140737488355328:=fun {n} hb=>abN (aa6 _ HX) hb
  split at ha
  ·-- nil
   injection ha with ha; injection ha with hc ha; injection ha with p q;subst p; subst q;have hb:=of_decide_eq_true hc;cases h0 with
   |list _ _ _ Lb=>exact Lb.elim
   |kC=>
    simp only [aa1] at hb;have hm:=Pj hb;refine fresh (n:=0) (old:=0) (xs:=[]) (es':=[]) rfl (fun e he=>by simp at he) .nil (by simp) (by simp) hb (by unfold maxLen; omega) ?_;have bM:=hA.nil nW (by omega) (by rw [f3]; rw [aai] at hb; omega);simpa using bM
  ·-- as long as its capacity
   split at ha
   ·rename_i e7;have e7:=aab e7;subst e7;injection ha with ha; injection ha with hc ha; injection ha with p q;subst p; subst q;have hb:=of_decide_eq_true hc;have hm:=Pj hb;obtain ⟨x0,xs,x1,x2,x3,x4⟩:=ic (esz:=sz) h0 (.inr rfl);rcases x4 with ⟨rfl,rfl,ad,rfl,hd⟩|⟨b,o',cap,rfl,ZV,xk,vz,_⟩
    ·rcases hd with rfl|hd
     ·cases h0
     ·cases hd
    ·have ib:cap=es.length:=xk;subst ib;refine fresh (n:=es.length) (old:=es.length) (xs:=xs) (es':=es) rfl x0 x1 x2 x3 hb (by unfold maxLen; omega) ?_;exact hA.grow nW ⟨b,o',none⟩ es.length es.length xs (by rw [x3,f2]) vz (by omega) (by omega) (growslice_fits (by omega) (by rw [f3]; exact hb))
   ·cases ha
  ·-- of a token
   rename_i id;split at ha
   ·rename_i f bV e' iH;split at ha
    ·rename_i cT;simp only [aap] at cT;obtain ⟨⟨q1,q2⟩,q3⟩:=cT;have q1:=aab q1;have q2:=aab q2;have q3:=aab q3;subst q1; subst q2; subst q3;injection ha with ha; injection ha with hc ha; injection ha with p q;subst p; subst q;simp only [aap] at hc;have vw:=of_decide_eq_true hc.1;have hb:=of_decide_eq_true hc.2;subst vw;have hm:=Pj hb;obtain ⟨x0,xs,x1,x2,x3,x4⟩:=ic (esz:=sz) h0 (.inr rfl);rcases x4 with ⟨rfl,rfl,ad,rfl,hd⟩|⟨b,o',cap,rfl,ZV,xk,vz,xE⟩
     ·obtain rfl:ad=none:=by
       rcases hd with hd|hd
       ·exact hd
       ·cases hd
      cases h0 with
      | @mN _ _ ro b9 hon=>
      have cX:=h.g.obj id _ _ iH b9;cases ro with
      |none=>exact cX.elim
      |ck _=>exact cX.elim
      |tok f' g c=>
       obtain ⟨rfl,_⟩:=cX;simp [nP] at hon
      |bK _=>exact cX.elim
      |bU=>
       simp only [aa1] at hb;have bM:=hA.nil nW (by omega) (by rw [f3]; rw [aai] at hb; omega);have e7:=Lq (n:=0) (old:=0) (xs:=[]) (by simp) (by unfold maxLen; omega);obtain ⟨r1,r2⟩:=h.Ll (cur:=[].toArray++us.toArray++aac zc.cells (grownCap w (0+(y :: ys).length) 0 e' - (0+(y :: ys).length))) (elem:=e') (n:=0+(y :: ys).length) (cap:=grownCap w (0+(y :: ys).length) 0 e') iH b9 (fun b c=>by simp only [cJ]; omega) (grownCap_ge w _ _ _) (grownCap_le_maxLen w _ _ _ (by unfold maxLen; omega)) e7;exact grown (n:=0) (es':=[]) rfl (fun e he=>by simp at he) .nil (by simp) (by simp) hb (by unfold maxLen; omega) _ _ _ r1 r2 (fun j hj=>.inr ⟨rfl,hj⟩) (aQ b9) (by simpa using bM)
     ·obtain ⟨ro,b9,wS⟩:=xk;have cX:=h.g.obj id _ _ iH b9;cases ro with
      |none=>exact cX.elim
      |bU=>exact wS.elim
      |ck _=>exact cX.elim
      |bK _=>exact cX.elim
      |tok f' g c=>
       obtain ⟨rfl,cur,iZ,k1,k3,k4,k5⟩:=cX;obtain ⟨rfl,rfl,rfl⟩:=wS.2 rfl;by_cases iL:es.length+(y :: ys).length≤cap
       ·have hle:(es.length+(y :: ys).length) * sz≤cap * sz:=aa0 _ iL;have bM:=hA.room nW b es.length cap cur iZ iL (by rw [f2,y3,← aag,k4]; exact hle);rw [f2] at bM;obtain ⟨r0,r1,r2⟩:=h.PD (news:=us) (n:=es.length+(y :: ys).length) iH b9 (by omega) iL iZ k4 k3 (by rw [y3,← aag]);refine ⟨_,_,_,_,β,fK bM,.inl rfl,r1.put o.dst ?_,by rw [bc]; exact r2⟩;have mU:=setRow_heap w b cur (cur.toList.take (es.length * sz)++us++cur.toList.drop (es.length * sz+us.length)).toArray e' (0,0) iZ;have PH:cur.toList.take (es.length * sz)=xs:=by
         have DD:xs.length=es.length * sz:=x3;apply List.ext_getElem?;intro j;rw [aa5];split
         ·rename_i hj;have Pe:j < xs.length:=by omega
          have oW:=vz j xs[j] (aao Pe);rw [cM,aai,cell_of_row w b j cur e' (0,0) iZ] at oW;rw [aaF,oW,aao Pe]
         ·rw [abV (by omega)]
        refine Rel.list (sZ (vs:=xs++us) (lQ x0 y0) (by rw [c8]; exact (x1.mono r0).append (y1.mono r0)) (jf x2 y2) (fun j v hj=>?_) (fun j hj=>.inr ⟨rfl,by rw [aah,x3,y3,← aag] at hj; exact hj⟩)) (by simp) iL ⟨_,aQ b9,aaf _,fun _=>⟨rfl,rfl,rfl⟩⟩;rw [cell_of_row _ _ j _ _ _ mU,PH];simp only [aa8];rw [aae (aaZ.1 hj).1];exact hj
       ·have bM:=hA.grow nW ⟨b,0,none⟩ es.length cap xs (by rw [x3,f2]) vz (by omega) (by omega) (growslice_fits (by omega) (by rw [f3]; exact hb));obtain ⟨r1,r2⟩:=h.Ll (cur:=xs.toArray++us.toArray++aac zc.cells (grownCap w (es.length+(y :: ys).length) cap e' - (es.length+(y :: ys).length))) (elem:=e') (n:=es.length+(y :: ys).length) (cap:=grownCap w (es.length+(y :: ys).length) cap e') iH b9 (fun b c=>⟨by omega,fun e=>by omega⟩) (grownCap_ge w _ _ _) (grownCap_le_maxLen w _ _ _ (by unfold maxLen; omega)) (Lq x3 (by unfold maxLen; omega));exact grown rfl x0 x1 x2 x3 hb (by unfold maxLen; omega) _ _ _ r1 r2 (fun j hj=>.inr ⟨rfl,hj⟩) (aQ b9) bM
    ·cases ha
   ·cases ha
  ·-- of a member of a family
   rename_i id j;split at ha
   ·rename_i fs bV e' iH;split at ha
    ·rename_i cT;simp only [aap] at cT;obtain ⟨⟨q1,q2⟩,q3⟩:=cT;have q1:=aab q1;have q2:=aab q2;have q3:=aab q3;subst q1; subst q2; subst q3;injection ha with ha; injection ha with hc ha; injection ha with p q;subst p; subst q;simp only [aap,decide_eq_true_eq] at hc;exact wA h fK HX hz sI f2 f3 f6 h0 (fun zc' VG=>hA' zc' VG) y0 y1 y2 y3 iH hc.1 hc.2
    ·cases ha
   ·cases ha
  ·cases ha
 ·-- a slice that grows, and nothing
  injection ha with ha; injection ha with _ ha; injection ha with p q;subst p; subst q;refine ao (s:=s) h (c:=cx) (fK ?_) h0;cases h0 with
  |iY=>exact hA.zero rfl _ _ _ (aaf 0)
  |eF _ _ ib=>exact hA.zero rfl _ _ _ ib
 ·-- a slice that grows
  rename_i id f' off sz len y ys hA;split at ha
  ·rename_i es bV e' iH;split at ha
   ·rename_i cT;simp only [aap] at cT;obtain ⟨⟨q1,q2⟩,q3⟩:=cT;have q1:=aab q1;have q2:=aab q2;have q3:=aab q3;subst q1; subst q2; subst q3;injection ha with ha; injection ha with hc ha; injection ha with p q;subst p; subst q;simp only [aap,decide_eq_true_eq] at hc;exact wz h fK HX hz sI f2 f3 f6 h0 (fun zc' VG=>hA' zc' VG) y0.g y1 y2 y3 iH hc.1.1.1 hc.1.1.2 hc.1.2 hc.2
   ·cases ha
  ·cases ha
 ·cases ha
theorem DE (h:bt E R w β s a) {args:Array Operand} {t:TypeId} (ho:o.op=.call { callee:=.builtin .append,args:=args,argTypes:=#[t,t] }) {x:AV} {k2:LK} {rq:Nat} {ys:List AV}
  (hl:nL E s.ae args.toList=some [x,.list k2 rq ys]) {i:TI} (hi:E.ti t=some i) {elem esz eb:Nat} {ag:Bool} {z:AV} (hk:i.k=.sl elem esz ag eb (some z)) (Jo:ys=[]∨rq=esz) (ajm:1≤esz) (HX:1≤eb) (hz:z.cells.length=esz) (sI:z.a8=true)
  {v:AV} {G':List GO} (ha:gd s.G elem esz eb x ys=some (true,v,G')) :
  cu E R w β s a o ((s.cH G').put o.dst (.v v)):=by
 have hr:=gV h hl;generalize hv:args.toList.map a.eval=vs at hr;have hx:=fe (E:=E) (w:=w) ho vs hv;cases hr with
 | @cons _ cx _ _ h0 h1=>
 cases h1 with
 | @cons _ cy _ _ h1 h2=>
 cases h2;obtain ⟨ia,u,e1,e2,e3,e4,e5,e6⟩:=cD E hi;have Dt:=hk;rw [hk] at e5;obtain ⟨ie,ue,rfl,f1,f2,f3,f4,f5,f6⟩:=eu e5;have vA:(⟨[cx,cy]⟩:Array Value)=#[cx,cy]:=rfl;obtain ⟨y0,us,y1,y2,y3,y4⟩:=ic (esz:=esz) h1 Jo;refine mW h (cx:=cx) (cy:=cy) (t:=t) (u:=t) (fun hh=>?_) Dt HX hz sI f1 f2 f3 f6 h0 (fun zc tX=>?_) y0 y1 y2 y3 ha
 ·rw [hx];simp only [builtin,vA,Sem.run_bind,hh,ab1,Sem.run_pure]
 ·rcases y4 with ⟨rfl,rfl,ad,rfl,_⟩|⟨by',oy,VH,rfl,ajn,_,Lr,yE⟩
  ·refine ⟨fun _ base len cap Fv=>?_,fun hh=>absurd hh (by simp),fun hh=>absurd hh (by simp),fun hh=>absurd hh (by simp)⟩;cases ad <;> simp [aad,run_underlying e2,run_sizeOf w f1,abW,abD,Fv,storeCells,loadCells,loadCellsFrom] <;>
    cases base <;> simp [storeCells]
  ·refine ⟨fun hn base len cap Fv=>?_,fun hh VI VJ=>run_append_nil (P:=E.P) w t o.type elem ie zc e2 f1 tX _ _ VH us (by rw [y3,f2]) Lr hh VI VJ,fun _ b sLen pz F4 F6 Uo hg VI VJ=>run_append_grow (P:=E.P) w t o.type elem ie zc e2 f1 tX b sLen pz F4 F6 Uo _ _ VH us (by rw [y3,f2]) Lr hg VI VJ,fun _ g sLen pz cur hg iL wB=>run_append_room (P:=E.P) w t o.type elem ie e2 f1 g sLen pz cur hg _ _ VH us (by rw [y3,f2]) Lr y2 iL wB⟩;rw [hn];simp [aad,run_underlying e2,run_sizeOf w f1,abW,abD,Fv,storeCells,loadCells,loadCellsFrom];cases base <;> simp [storeCells]
theorem xZ:∀ (bs:List UInt8),aN R w (aq (bs.map jt)) (abU ⟨⟨bs⟩⟩)
 |[]=>.nil
 |b :: bs=>.cons (Rel.int .u8 b.toNat) (xZ bs)
theorem wC (h:bt E R w β s a) {args:Array Operand} {t u:TypeId} (ho:o.op=.call { callee:=.builtin .append,args:=args,argTypes:=#[t,u] }) {x:AV} {bs:List UInt8}
  (hl:nL E s.ae args.toList=some [x,.str bs]) {i j:TI} (hi:E.ti t=some i) (hj:E.ti u=some j) {elem eb:Nat} {ag:Bool} {z:AV} (hk:i.k=.sl elem 1 ag eb (some z)) (ZX:j.k=.str) (HX:1≤eb) (hz:z.cells.length=1) (sI:z.a8=true)
  {v:AV} {G':List GO} (ha:gd s.G elem 1 eb x (bs.map jt)=some (true,v,G')) :
  cu E R w β s a o ((s.cH G').put o.dst (.v v)):=by
 have hr:=gV h hl;generalize hv:args.toList.map a.eval=vs at hr;have hx:=fe (E:=E) (w:=w) ho vs hv;cases hr with
 | @cons _ cx _ _ h0 h1=>
 cases h1 with
 | @cons _ cy _ _ h1 h2=>
 cases h2;obtain ⟨ia,ud,e1,e2,e3,e4,e5,e6⟩:=cD E hi;obtain ⟨ZY,ud',g1,g2,g3,g4,g5,g6⟩:=cD E hj;rw [ZX] at g5;have:=kD g5;subst this;have Dt:=hk;rw [hk] at e5;obtain ⟨ie,ue,rfl,f1,f2,f3,f4,f5,f6⟩:=eu e5;cases h1;have e7:(⟨⟨bs⟩⟩:ByteArray).size=bs.length:=rfl;have hlen:(bs.map jt).length=bs.length:=List.length_map _;have vA:(⟨[cx,.string ⟨⟨bs⟩⟩]⟩:Array Value)=#[cx,.string ⟨⟨bs⟩⟩]:=rfl;have jo:(abU ⟨⟨bs⟩⟩).length=bs.length:=Lib.strCells_length _;refine mW h (cx:=cx) (cy:=.string ⟨⟨bs⟩⟩) (us:=abU ⟨⟨bs⟩⟩) (t:=t) (u:=u) (fun hh=>?_) Dt HX hz sI f1 f2 f3 f6 h0 (fun zc tX=>?_) ?_ (xZ bs) (Lib.strCells_oneCell _) (by rw [jo,hlen,Nat.mul_one]) ha
 ·rw [hx];simp only [builtin,vA,Sem.run_bind,hh,ab1,Sem.run_pure]
 ·rw [hlen];refine ⟨fun hn base len cap Fv=>?_,fun hh VI VJ=>?_,fun _ b sLen pz F4 F6 Uo hg VI VJ=>Lib.run_append_grow_string (P:=E.P) w t u o.type elem ie zc e2 g2 f1 tX b sLen pz F4 F6 Uo ⟨⟨bs⟩⟩ hg VI VJ,fun _ g sLen pz cur hg iL wB=>?_⟩
  ·have hb:bs=[]:=aa2 hn;subst hb;have hz0:(⟨⟨[]⟩⟩:ByteArray).size=0:=rfl;simp [hz0,aad,run_underlying e2,run_underlying g2,run_sizeOf w f1,abW,abD,Fv,storeCells];cases base <;> simp [storeCells]
  ·rw [run_append_nil_string (P:=E.P) w t u o.type elem ie zc e2 g2 f1 tX ⟨⟨bs⟩⟩ hh VI VJ];simp [abU,e7]
  ·have:=Lib.run_append_room_string (P:=E.P) w t u o.type elem ie e2 g2 f1 f2 g sLen pz cur hg ⟨⟨bs⟩⟩ iL (by rw [f2,Nat.mul_one,jo] at wB; exact wB);rw [this,f2,Nat.mul_one,jo];rfl
 ·intro e he;obtain ⟨b,_,rfl⟩:=List.mem_map.1 he;exact ⟨rfl,rfl,rfl⟩
end ops
end Go.Am
