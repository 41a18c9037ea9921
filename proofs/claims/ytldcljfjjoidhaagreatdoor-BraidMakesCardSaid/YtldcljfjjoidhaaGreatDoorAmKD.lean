/- The abstract machine: what it does is what the model does: append and copy. -/
import Derived.Test.YtldcljfjjoidhaaGreatDoorAmKC
import Derived.Lib.AppendStr
set_option linter.all false
open Array renaming getElem?_toList→abp, toList_append→abB, length_toList→abC, size_append→abE
open Bool renaming and_eq_true→abo
open Go.Builtin renaming zeroCells→aao, append_→aau, firstCells→abD, lenOf→abK
open Go.Lib renaming strCells→abI
open Go.Result renaming andThen_ok→abM
open List renaming getElem?_append_left→aaB, length_append→abi, getElem?_eq_getElem→abn, getElem?_eq_some_iff→abq, length_nil→abt, eq_nil_of_length_eq_zero→abu, size_toArray→abv, append_assoc→abw, getElem?_take→abx, length_cons→abz, getElem?_toArray→abA, length_take→abH, getElem?_eq_none→abJ
open Nat renaming eq_of_beq_eq_true→aad, le_refl→aaO, add_mul→aaY, zero_add→abj, mul_le_mul_right→abr, le_mul_of_pos_right→aby, le_trans→abF, zero_mul→abG
namespace Go.Am
open Go
section fams
variable {E:Env} {R R':ak} {w w':World} {β β':Nat→Nat} {s s':St} {a a':Act} {o:Oper}
theorem xP {α:Type} {l r:List α} {i:Nat} {x:α} (h:nth l i=some x):nth (l++r) i=some x:=by
 have:=cg h;rw [bj] at *;rw [aaB this];exact h
theorem fm {α:Type} {l r:List α} {i:Nat} {x:α} (h:nth (l++r) i=some x):nth l i=some x∨∃ j,i=l.length+j∧nth r j=some x:=by
 rw [bj] at h;rcases Nat.lt_or_ge i l.length with bY|oP
 ·rw [aaB bY] at h;exact .inl (by rw [bj]; exact h)
 ·rw [List.getElem?_append_right oP] at h;exact .inr ⟨i - l.length,by omega,by rw [bj]; exact h⟩
theorem bq.X8 (h:bq E R w β s a) {id sz:Nat} {e:TypeId} {fs:List Nat} (hid:nth s.G id=some (.bF fs sz e)) {nfs:List Nat} {nts:List TR} (hl:nts.length=nfs.length)
  (dS:∀ j f t,nth nfs j=some f→nth nts j=some t→Cg R w sz e f t) (vy:∀ j f b c,nth nts j≠some (.tok f b c)) {ro:RO} (ca:nth R.obj id=some ro) :
  ∃ ts,ro=.bF ts∧ts.length=fs.length∧bq E (R.reset id (.bF (ts++nts))) w β (s.cP (aG s.G id (.bF (fs++nfs) sz e))) a∧Step R w β s.boxes (R.reset id (.bF (ts++nts))) w β s.boxes:=by
 have df:=h.g.obj id _ _ hid ca;cases ro with
 |none=>exact df.elim
 |bS=>exact df.elim
 |ck _=>exact df.elim
 |tok _ _ _=>exact df.elim
 |bF ts=>
 obtain ⟨q1,q2,q3⟩:=df;have zn:∀ b,RO.has (.bF (ts++nts)) b→RO.has (.bF ts) b:=fun b ⟨j,f,c,hj⟩=>by
  rcases fm hj with hj|⟨i,_,hi⟩
  ·exact ⟨j,f,c,hj⟩
  ·exact absurd hi (vy i f b c)
 have ext:Ext R w (R.reset id (.bF (ts++nts))) w:=⟨fun _ _ h=>h,fun _ _ _=>rfl,fun i r hr=>by
  by_cases e:id=i
  ·subst e;rw [ca] at hr;cases hr;exact ⟨_,aV ca,fun j t hj=>⟨t,xP hj,nD.refl t⟩⟩
  ·exact ⟨r,by rw [ak.reset,cp e]; exact hr,cV.refl r⟩,iJ.refl w⟩
 have live:∀ b,Live (R.reset id (.bF (ts++nts))) b→Live R b:=fun b ⟨i,r,h1,h2⟩=>by
  rcases aJ ca h1 with ⟨_,rfl⟩|⟨_,h1⟩
  ·exact ⟨id,_,ca,zn b h2⟩
  ·exact ⟨i,r,h1,h2⟩
 refine ⟨ts,rfl,q1,⟨⟨by simp [St.cP,ak.reset,h.g.len],fun i g r h1 h2=>?_,fun i j ri rj b h1 h2 b1 b2=>?_,h.g.wf,fun g cs hg=>(h.g.cw g cs hg).mono ext,h.g.lo⟩,h.b.bJ ext (fun _ _ _=>rfl) (fun _ _ _ _ h=>h) (fun _ _ _ hl=>live _ hl),h.t.mono ext,h.n,h.d.mono ext⟩,?_⟩
 ·rcases aJ ca h2 with ⟨rfl,rfl⟩|⟨cK,h2⟩
  ·simp only [St.cP] at h1;rw [aV hid] at h1;cases h1;refine ⟨by simp [q1,hl],fun i j f b c f' c' hi hj=>?_,fun j f t hf ht=>?_⟩
   ·rcases fm hi with hi|⟨_,_,hi⟩
    ·rcases fm hj with hj|⟨_,_,hj⟩
     ·exact q2 i j _ _ _ _ _ hi hj
     ·exact absurd hj (vy _ _ _ _)
    ·exact absurd hi (vy _ _ _ _)
   ·rcases fm hf with Rq|⟨k,hk,Rq⟩
    ·rcases fm ht with ht|⟨k',jf,ht⟩
     ·exact q3 j f t Rq ht
     ·have:=cg Rq;omega
    ·rcases fm ht with ht|⟨k',jf,ht⟩
     ·have:=cg ht;omega
     ·have MP:k=k':=by omega
      subst MP;exact dS k f t Rq ht
  ·simp only [St.cP] at h1;rw [cp (Ne.symm cK)] at h1;exact (h.g.obj i g r h1 h2).mono ext (fun _ _=>rfl) (fun _ _ _ h=>h)
 ·rcases aJ ca h1 with ⟨g3,e1⟩|⟨g3,g1⟩
  ·rcases aJ ca h2 with ⟨g4,e2⟩|⟨g4,g2⟩
   ·omega
   ·rw [e1] at b1;exact g3.trans (h.g.inj id j _ _ b ca g2 (zn b b1) b2)
  ·rcases aJ ca h2 with ⟨g4,e2⟩|⟨g4,g2⟩
   ·rw [e2] at b2;exact (h.g.inj i id _ _ b g1 ca b1 (zn b b2)).trans g4.symm
   ·exact h.g.inj i j ri rj b g1 g2 b1 b2
 ·refine ⟨ext,rfl,rfl,rfl,aaO _,fun _ _ _=>rfl,fun b _ ho=>?_,fun _ _ h _ _=>h⟩;rcases ho with ho|ho
  ·exact .inl (live b ho)
  ·exact .inr ho
theorem cz.step {s1:St} {s2:St} (e:s1.boxes=s.boxes) (st:Step R w β s.boxes R' w β s.boxes) (h:cz E R' w β s1 a o s2):cz E R w β s a o s2:=by
 obtain ⟨nx,x,w',R2,β',h1,h2,h3,h4⟩:=h;rw [e] at h4;exact ⟨nx,x,w',R2,β',h1,h2,h3,st.trans h4⟩
theorem acA {c:Bool} {α:Type} {a b:α} (h:(bif c then some a else none)=some b):c=true∧a=b:=by
 cases c
 ·cases h
 ·exact ⟨rfl,Option.some.inj h⟩
theorem zt {sz:Nat} {e:TypeId}:∀ {G:List GO} {i j:Nat},mZ G sz e i=some j→∃ fs,nth G (j - i)=some (.bF fs sz e)∧i≤j
 |[],i,j,h=>by cases h
 |g :: G,i,j,h=>by
  have step:mZ G sz e (i+1)=some j→∃ fs,nth (g :: G) (j - i)=some (.bF fs sz e)∧i≤j:=fun h=>by
   obtain ⟨fs,h1,h2⟩:=zt h;refine ⟨fs,?_,by omega⟩;rw [show j - i=(j - (i+1))+1 by omega];exact h1
  unfold mZ at h;split at h
  ·rename_i nX;cases nX
  ·rename_i nX;obtain ⟨rfl,rfl⟩:=List.cons.inj nX;split at h
   ·rename_i j' hj;cases h;exact step hj
   ·obtain ⟨hc,rfl⟩:=acA h
    ·rw [abo] at hc;have h1:=aad hc.1;have h2:=aad hc.2;subst h1 h2;exact ⟨_,by rw [Nat.sub_self]; rfl,aaO _⟩
  ·rename_i x G1 _ _ _ hn nX;obtain ⟨rfl,rfl⟩:=List.cons.inj nX;exact step h
theorem bq.M2 {s0:St} {d:Option Tmp} {x y:AV} (h:bq E R w β (s0.put d (.v x)) a) (hw:∀ c,Rel R w x c→Rel R w y c):bq E R w β (s0.put d (.v y)) a:=by
 cases d with
 |none=>exact h
 |some d=>
  simp only [St.put] at h ⊢;cases hb:Nat.blt d s0.n with
  |false=>rw [hb] at h; exact h
  |true=>
   rw [hb] at h;refine ⟨h.g,h.b,fun i hi=>?_,h.n,h.d⟩;by_cases e:d=i
   ·subst e;rw [aC];obtain ⟨c,k1,k2⟩:=h.t d (by rw [aC]; simp);rw [aC] at k2;exact ⟨c,k1,hw c k2⟩
   ·rw [aW e] at hi ⊢;have:=h.t i (by rw [aW e]; exact hi);rw [aW e] at this;exact this
theorem cz.M2 {s0:St} {x y:AV} (h:cz E R w β s a o (s0.put o.dst (.v x))) (hw:∀ R' w',Ext R w R' w'→∀ c,Rel R' w' x c→Rel R' w' y c):cz E R w β s a o (s0.put o.dst (.v y)):=by
 obtain ⟨nx,v,w',R',β',h1,h2,h3,h4⟩:=h;refine ⟨nx,v,w',R',β',h1,h2,h3.M2 (hw R' w' h4.ext),?_⟩;rw [bf] at h4 ⊢;exact h4
end fams
section ops
variable {E:Env} {R:ak} {w:World} {β:Nat→Nat} {s:St} {a:Act} {o:Oper}
theorem jg {k:LK} {sz esz:Nat} {es:List AV} {c:Value} (h:Rel R w (.list k sz es) c) (gi:es=[]∨sz=esz) :
  kz esz es∧∃ vs,aP R w (aq es) vs∧(∀ v∈vs,v.oneCell'=true)∧vs.length=es.length * esz ∧
   ((es=[]∧vs=[]∧∃ ad,c=.slice ad 0 0∧(ad=none∨k=.lM))∨∃ b o' cap,c=.slice (some ⟨b,o',none⟩) es.length cap∧es.length≤cap∧Dx R k b o' es.length cap∧(∀ j v,vs[j]?=some v→w.cell? ((⟨b,o',none⟩:Addr).add j)=some v)∧iu R w b o' esz es):=by
 cases h with
 |mb=>exact ⟨fun e he=>by simp at he,[],.nil,by simp,by simp,.inl ⟨rfl,rfl,_,rfl,.inl rfl⟩⟩
 |j9=>exact ⟨fun e he=>by simp at he,[],.nil,by simp,by simp,.inl ⟨rfl,rfl,_,rfl,.inl rfl⟩⟩
 |oW=>exact ⟨fun e he=>by simp at he,[],.nil,by simp,by simp,.inl ⟨rfl,rfl,_,rfl,.inr rfl⟩⟩
 |oa=>exact ⟨fun e he=>by simp at he,[],.nil,by simp,by simp,.inl ⟨rfl,rfl,_,rfl,.inl rfl⟩⟩
 |oX=>exact ⟨fun e he=>by simp at he,[],.nil,by simp,by simp,.inl ⟨rfl,rfl,_,rfl,.inl rfl⟩⟩
 | @list _ _ _ b o' len cap hr hlen jK MP=>
  subst hlen;have nF:iu R w b o' esz es:=by
   rcases gi with rfl|rfl
   ·exact .nil
   ·exact hr
  obtain ⟨g0,vs,g1,g2,g3,g4⟩:=zi nF;refine ⟨g0,vs,g1,g2,by rw [← g1.length,fg g0],.inr ⟨b,o',cap,rfl,jK,MP,fun j v hv=>?_,nF⟩⟩;rw [cZ];exact g3 j v hv
theorem tW {b esz:Nat} {es:List AV} {vs:List Value} {w:World} {R:ak} (h0:kz esz es) (h:aP R w (aq es) vs) (h1:∀ v∈vs,v.oneCell'=true)
  (hc:∀ j v,vs[j]?=some v→w.cell? ⟨b,j,none⟩=some v) (hI:∀ j,j < vs.length→R.I b j):iu R w b 0 esz es:=
 om h0 (fk.make h h1 (fun j v hv=>by rw [abj]; exact hc j v hv) (fun j hj=>by rw [abj]; exact hI j (by rw [← h.length]; exact hj)))
theorem nh {sz:Nat} {l r:List AV} (h:kz sz l) (k:kz sz r):kz sz (l++r):=fun e he=>by
 rcases List.mem_append.1 he with he|he
 ·exact h e he
 ·exact k e he
theorem ke {l r:List Value} (h:∀ v∈l,v.oneCell'=true) (k:∀ v∈r,v.oneCell'=true):∀ v∈l++r,v.oneCell'=true:=fun v hv=>by
 rcases List.mem_append.1 hv with hv|hv
 ·exact h v hv
 ·exact k v hv
structure Apd (P:Program) (w:World) (t u ty e:TypeId) (i:TypeInfo) (z:Value) (cy:Value) (n:Nat) (us:List Value):Prop where
 zero:n=0→∀ base len cap,len≤cap→(aau #[t,u] ty #[.slice base len cap,cy]).run P w=.ok (.slice base len cap) w
 nil:0 < n→(n:Int)≤9223372036854775807→n * i.bytes≤281474976710656→(aau #[t,u] ty #[.slice none 0 0,cy]).run P w =
   .ok (.slice (some ⟨w.heap.size,0,none⟩) n (grownCap w n 0 e)) (w.drew.alloc (.cells (us.toArray++aao z.cells (grownCap w n 0 e - n)) e))
 grow:0 < n→∀ (b:Addr) (sLen qy:Nat) (HK:List Value),HK.length=sLen * i.size→(∀ j v,HK[j]?=some v→w.cell? (b.add j)=some v)→qy < sLen+n→((sLen+n:Nat):Int)≤9223372036854775807→Builtin.nextslicecap (sLen+n) qy * i.bytes≤281474976710656 →
   (aau #[t,u] ty #[.slice (some b) sLen qy,cy]).run P w=.ok (.slice (some ⟨w.heap.size,0,none⟩) (sLen+n) (grownCap w (sLen+n) qy e))
    (w.drew.alloc (.cells (HK.toArray++us.toArray++aao z.cells (grownCap w (sLen+n) qy e - (sLen+n))) e))
 room:0 < n→∀ (g sLen qy:Nat) (cur:Array Value),w.heap[g]?=some (.cells cur e (0,0))→sLen+n≤qy→sLen * i.size+us.length≤cur.size →
   (aau #[t,u] ty #[.slice (some ⟨g,0,none⟩) sLen qy,cy]).run P w=.ok (.slice (some ⟨g,0,none⟩) (sLen+n) qy) (w.setRow g (cur.toList.take (sLen * i.size)++us++cur.toList.drop (sLen * i.size+us.length)).toArray)
theorem xQ (h:bq E R w β s a) {t u:TypeId} {id f off sz len:Nat} {y:AV} {ys:List AV} {cx cy:Value} {us:List Value}
  (gS:∀ {c:Value} {w':World},(aau #[t,u] o.type #[cx,cy]).run E.P w=.ok c w'→(execOp a.eval o).run E.P w=.ok (.value c) w')
  {elem esz eb:Nat} {z:AV} (Jy:1≤eb) (hz:z.cells.length=esz) (tF:z.ba=true)
  {ie:TypeInfo} (f2:ie.size=esz) (f3:ie.bytes=eb) (f6:ij ie=some z)
  (h0:Rel R w (.dM id f off sz len) cx) (hA:∀ zc:Value,ie.zero=some zc→Apd E.P w t u o.type elem ie zc cy (y :: ys).length us)
  (y0:fc esz (y :: ys)) (y1:aP R w (aq (y :: ys)) us) (y2:∀ v∈us,v.oneCell'=true) (y3:us.length=(y :: ys).length * esz)
  {es:List AV} (hid:nth s.G id=some (.dv es esz elem)) (hf:f=es.length) (ho0:off=0) (zl:len=f) (hb:(es.length+(y :: ys).length) * eb≤140737488355328) :
  cz E R w β s a o ((s.cP (aG s.G id (.dv (es++(y :: ys)) esz elem))).put o.dst (.v (.dM id (es.length+(y :: ys).length) 0 esz (es.length+(y :: ys).length)))):=by
 obtain ⟨zc,vf,Hc⟩:=dR f6;have hA:=hA zc vf;obtain ⟨d1,d2⟩:=Rel.cells (Hc R w) tF;have rJ:zc.cells.size=esz:=by rw [← hz,d1.length]; simp
 have nH:0 < (y :: ys).length:=by simp
 have hm:es.length+(y :: ys).length≤140737488355328:=abF (aby _ Jy) hb;have Fb:(es++(y :: ys)).length=es.length+(y :: ys).length:=abi
 -- where a new block has been made
 have fresh:∀ {xs:List Value} {old:Nat} {r0:RO},nth R.obj id=some r0→(∀ b c,cV r0 (.tok (es.length+(y :: ys).length) b c))→fc esz es→aP R w (aq es) xs→(∀ v∈xs,v.oneCell'=true)→xs.length=es.length * esz →
   (aau #[t,u] o.type #[cx,cy]).run E.P w=.ok (.slice (some ⟨w.heap.size,0,none⟩) (es.length+(y :: ys).length) (grownCap w (es.length+(y :: ys).length) old elem)) (w.drew.alloc (.cells (xs.toArray++us.toArray++aao zc.cells (grownCap w (es.length+(y :: ys).length) old elem - (es.length+(y :: ys).length))) elem)) →
   cz E R w β s a o ((s.cP (aG s.G id (.dv (es++(y :: ys)) esz elem))).put o.dst (.v (.dM id (es.length+(y :: ys).length) 0 esz (es.length+(y :: ys).length)))):=by
  intro xs old r0 ca hle Mt hxr xK Ct bK;have oP:=grownCap_ge w (es.length+(y :: ys).length) old elem;obtain ⟨r1,r2⟩:=h.X7 (cur:=xs.toArray++us.toArray++aao zc.cells (grownCap w (es.length+(y :: ys).length) old elem - (es.length+(y :: ys).length))) (vs:=xs++us) (es':=es++(y :: ys)) hid ca (by rw [Fb]; exact hle) (by rw [Fb]; exact oP) (grownCap_le_maxLen w _ old elem (by unfold maxLen; omega)) (by
   simp only [abE,abv,size_zeroCells,rJ,Ct,y3,← aaY];congr 1;omega) (tV Mt y0) (by rw [dw]; exact hxr.append y1) (ke xK y2) (by
   rw [Fb];simp only [abB];exact List.take_left' (by rw [abi,Ct,y3,aaY]))
  rw [Fb] at r1 r2;refine ⟨_,_,_,_,β,gS bK,.inl rfl,r1.put o.dst ?_,by rw [bf]; exact r2⟩;exact Rel.dM (aV ca) ⟨aaO _,fun _=>⟨rfl,abj _,.inl (abG _).symm⟩⟩ oP
 cases h0 with
 | @jX _ _ ro ca hon=>
  have df:=h.g.obj id _ _ hid ca;have he0:es=[]:=abu hf.symm;subst he0;cases ro with
  |none=>exact df.elim
  |ck _=>exact df.elim
  |bF _=>exact df.elim
  |tok f' g c=>
   obtain ⟨rfl,_⟩:=df;simp [oV] at hon
  |bS=>
   simp only [abt] at hb;have bK:=hA.nil nH (by omega) (by rw [f3]; rw [abj] at hb; omega);exact fresh (xs:=[]) (old:=0) ca (fun b c=>by simp only [cV]; omega) (fun e he=>by simp at he) .nil (by simp) (by simp) (by simpa using bK)
 | @dM _ _ _ _ _ cap b o' ro ca dS jK=>
  subst hf; subst ho0; subst zl;obtain ⟨b',c',cur,vs,rfl,g1,g2,g3,g4,g5,g6,g7,g8,g9⟩:=ng h.g hid ca (fun k=>by subst k; exact dS);obtain ⟨rfl,Mw,vg⟩:=dS.2 rfl;rw [abj] at Mw;subst Mw;have WG:vs.length=es.length * esz:=by rw [← g7.length,dU g1]
  have hJ:∀ j v,vs[j]?=some v→cur[j]?=some v:=fun j v hj=>by
   rw [← g9,abx] at hj;split at hj
   ·rw [← abp]; exact hj
   ·cases hj
  by_cases jM:es.length+(y :: ys).length≤cap
  ·have pf:o'=0:=by
    rcases vg with vg|vg
    ·rw [vg,abG]
    ·rw [abz] at jM; omega
   subst pf;have hle:(es.length+(y :: ys).length) * esz≤cap * esz:=abr _ jM;have bK:=hA.room nH b es.length cap cur g2 jM (by rw [f2,y3,← aaY,g5]; exact hle);rw [f2] at bK;have jN:cur.toList.length=cap * esz:=by rw [show cur.toList.length=cur.size from abC,g5]
   obtain ⟨r1,r2⟩:=h.R4 (cur2:=(cur.toList.take (es.length * esz)++us++cur.toList.drop (es.length * esz+us.length)).toArray) (vs:=vs++us) (es':=es++(y :: ys)) hid ca (by rw [Fb]; omega) (by rw [Fb]; exact jM) g2 (by
    rw [abv,← abC];simp only [abi,abH,List.length_drop,y3,jN];rw [aaY] at hle;omega) (tV g1 y0) (by rw [dw]; exact g7.append y1) (ke g8 y2) (by
    rw [Fb,List.toList_toArray,g9];exact List.take_left' (by rw [abi,WG,y3,aaY]))
   rw [Fb] at r1 r2;refine ⟨_,_,_,_,β,gS bK,.inl rfl,r1.put o.dst ?_,by rw [bf]; exact r2⟩;exact Rel.dM (aV ca) ⟨aaO _,fun _=>⟨rfl,abj _,.inl (abG _).symm⟩⟩ jM
  ·have bK:=hA.grow nH ⟨b,o',none⟩ es.length cap vs (by rw [WG,f2]) (fun j v hj=>by
    rw [cZ];have Rn:=(abq.1 hj).1;have pf:o'=0:=by
     rcases vg with vg|vg
     ·rw [vg,abG]
     ·have:es.length=0:=by omega
      rw [WG,this] at Rn;omega
    subst pf;rw [abj,cell_of_row w b j cur elem (0,0) g2];exact hJ j v hj) (by omega) (by omega) (growslice_fits (by omega) (by rw [f3]; exact hb))
   exact fresh (xs:=vs) (old:=cap) ca (fun b c=>⟨by omega,fun e=>by omega⟩) g1 g7 g8 WG bK
theorem oq (h:bq E R w β s a) {t u:TypeId} {id j:Nat} {es:List AV} {y:AV} {ys:List AV} {cx cy:Value} {us:List Value}
  (gS:∀ {c:Value} {w':World},(aau #[t,u] o.type #[cx,cy]).run E.P w=.ok c w'→(execOp a.eval o).run E.P w=.ok (.value c) w')
  {elem esz eb:Nat} {z:AV} (Jy:1≤eb) (hz:z.cells.length=esz) (tF:z.ba=true)
  {ie:TypeInfo} (f2:ie.size=esz) (f3:ie.bytes=eb) (f6:ij ie=some z)
  (h0:Rel R w (.list (.bF id j) esz es) cx) (hA:∀ zc:Value,ie.zero=some zc→Apd E.P w t u o.type elem ie zc cy (y :: ys).length us)
  (y0:kz esz (y :: ys)) (y1:aP R w (aq (y :: ys)) us) (y2:∀ v∈us,v.oneCell'=true) (y3:us.length=(y :: ys).length * esz)
  {fs:List Nat} (jH:nth s.G id=some (.bF fs esz elem)) (yp:nth fs j=some es.length) (hb:(es.length+(y :: ys).length) * eb≤140737488355328) :
  cz E R w β s a o ((s.cP (aG s.G id (.bF (aG fs j (es.length+(y :: ys).length)) esz elem))).put o.dst (.v (.list (.bF id j) esz (es++(y :: ys))))):=by
 obtain ⟨zc,vf,Hc⟩:=dR f6;have hA:=hA zc vf;obtain ⟨d1,d2⟩:=Rel.cells (Hc R w) tF;have rJ:zc.cells.size=esz:=by rw [← hz,d1.length]; simp
 have nH:0 < (y :: ys).length:=by simp
 have hm:es.length+(y :: ys).length≤140737488355328:=abF (aby _ Jy) hb;obtain ⟨x0,xs,x1,x2,x3,x4⟩:=jg (esz:=esz) h0 (.inr rfl);obtain ⟨ro,ca⟩:∃ ro,nth R.obj id=some ro:=by
  cases h0 with
  |oX q _=>exact ⟨_,q⟩
  |list _ _ _ hk=>obtain ⟨ro,q,_⟩:=hk; exact ⟨ro,q⟩
 have df:=h.g.obj id _ _ jH ca;cases ro with
 |none=>exact df.elim
 |bS=>exact df.elim
 |ck _=>exact df.elim
 |tok _ _ _=>exact df.elim
 |bF ts=>
 have df:yY R w esz elem fs ts:=df;have hjl:j < ts.length:=by rw [df.1]; exact cg yp
 obtain ⟨tr,ht⟩:∃ tr,nth ts j=some tr:=⟨ts[j],by rw [bj]; exact abn hjl⟩;have p0:=df.2.2 j _ _ yp ht;have Fc:∀ i f b c,nth ts i=some (.tok f b c)→b < w.heap.size:=fun i f b c hi=>h.g.cj ⟨id,_,ca,i,f,c,hi⟩
 -- where a new block has been made
 have fresh:∀ {old:Nat},(∀ b c,nD tr (.tok (es.length+(y :: ys).length) b c)) →
   (aau #[t,u] o.type #[cx,cy]).run E.P w=.ok (.slice (some ⟨w.heap.size,0,none⟩) (es.length+(y :: ys).length) (grownCap w (es.length+(y :: ys).length) old elem)) (w.drew.alloc (.cells (xs.toArray++us.toArray++aao zc.cells (grownCap w (es.length+(y :: ys).length) old elem - (es.length+(y :: ys).length))) elem)) →
   cz E R w β s a o ((s.cP (aG s.G id (.bF (aG fs j (es.length+(y :: ys).length)) esz elem))).put o.dst (.v (.list (.bF id j) esz (es++(y :: ys))))):=by
  intro old hle bK;have oP:=grownCap_ge w (es.length+(y :: ys).length) old elem;have hcm:=grownCap_le_maxLen w (es.length+(y :: ys).length) old elem (by unfold maxLen; omega);have WJ:(xs.toArray++us.toArray++aao zc.cells (grownCap w (es.length+(y :: ys).length) old elem - (es.length+(y :: ys).length))).size=grownCap w (es.length+(y :: ys).length) old elem * esz:=by
   simp only [abE,abv,size_zeroCells,rJ,x3,y3,← aaY];congr 1;omega
  generalize jY:xs.toArray++us.toArray++aao zc.cells (grownCap w (es.length+(y :: ys).length) old elem - (es.length+(y :: ys).length))=cur at bK WJ;have o1:=One.drew w (.cells cur elem);obtain ⟨r1,r2⟩:=h.X2 o1 (n:=(es.length+(y :: ys).length) * esz) (r1:=.bF (aG ts j (.tok (es.length+(y :: ys).length) w.heap.size (grownCap w (es.length+(y :: ys).length) old elem)))) (go:=.bF (aG fs j (es.length+(y :: ys).length)) esz elem) jH ca
   (vp.set ht (hle _ _)) (fun b hb=>Ju hb) (yY.set df ⟨rfl,cur,o1.new,oP,hcm,WJ,fun o' pf hi=>by
    rcases hi with hi|⟨_,hi⟩
    ·have:=h.g.wf _ _ hi;omega
    ·omega⟩ (fun i f c hi=>absurd (Fc i f _ c hi) (Nat.lt_irrefl _)) (fun i f b c _ hi=>⟨o1.old b (Fc i f b c hi),fun o' pf=>by
     rcases pf with pf|⟨pf,_⟩
     ·exact pf
     ·have:=Fc i f b c hi;omega⟩))
  have e:=r2.ext;refine ⟨_,_,_,_,β,gS bK,.inl rfl,r1.put o.dst ?_,by rw [bf]; exact r2⟩;refine Rel.list (tW (vs:=xs++us) (nh x0 y0) (by rw [dw]; exact (x1.mono e).append (y1.mono e)) (ke x2 y2) (fun j v hj=>?_) (fun j hj=>.inr ⟨rfl,by rw [abi,x3,y3,← aaY] at hj; exact hj⟩)) (by simp) oP ⟨_,aV ca,_,aV ht,aaO _,fun _=>⟨rfl,rfl,rfl⟩⟩;rw [cell_of_row _ _ j _ _ _ o1.new,← jY];have bY:=(abq.1 hj).1;rw [← abp];simp only [abB,abw];rw [← abw,aaB bY];exact hj
 rcases x4 with ⟨rfl,rfl,ad,rfl,hd⟩|⟨b,o',cap,rfl,acD,xk,wN,xE⟩
 ·obtain rfl:ad=none:=by
   rcases hd with hd|hd
   ·exact hd
   ·cases hd
  simp only [abt] at hb p0;have bK:=hA.nil nH (by simp only [abt] at hm; omega) (by rw [f3]; rw [abj] at hb; omega);cases tr with
  |bS=>exact fresh (old:=0) (fun b c=>by simp only [nD,abz]; omega) (by simpa using bK)
  |full f'=>
   have p0:f'=0:=p0;subst p0;exact fresh (old:=0) (fun b c=>by simp only [nD,abz]; omega) (by simpa using bK)
  |tok f' g c=>
   obtain ⟨p0,_⟩:=p0;subst p0;exact fresh (old:=0) (fun b c=>by simp only [nD,abz,abt]; omega) (by simpa using bK)
 ·obtain ⟨od,acE,yo⟩:=xk;rw [ca] at acE;cases acE;obtain ⟨t',q3,yo⟩:=yo;rw [ht] at q3;cases q3;cases tr with
  |bS=>exact yo.elim
  |full f'=>
   have hf:f'=es.length:=p0;subst hf;have jK:=yo.2 rfl;subst jK;have bK:=hA.grow nH ⟨b,o',none⟩ es.length es.length xs (by rw [x3,f2]) wN (by omega) (by omega) (growslice_fits (by omega) (by rw [f3]; exact hb));exact fresh (fun b c=>by simp only [nD]; omega) bK
  |tok f' g c=>
   obtain ⟨rfl,cur,jY,k1,k3,k4,k5⟩:=p0;obtain ⟨rfl,rfl,rfl⟩:=yo.2 rfl;by_cases jM:es.length+(y :: ys).length≤cap
   ·have hle:(es.length+(y :: ys).length) * esz≤cap * esz:=abr _ jM;have bK:=hA.room nH b es.length cap cur jY jM (by rw [f2,y3,← aaY,k4]; exact hle);rw [f2] at bK;generalize M3:(cur.toList.take (es.length * esz)++us++cur.toList.drop (es.length * esz+us.length)).toArray=cur2 at bK;have jN:cur.toList.length=cap * esz:=by rw [show cur.toList.length=cur.size from abC,k4]
    have hll:es.length * esz≤cap * esz:=abr _ k1;have K8:cur2.size=cap * esz:=by
     rw [← M3,abv];simp only [abi,abH,List.length_drop,y3,jN];rw [aaY] at hle;omega
    have zo:∀ o',R.I b o'→cur2[o']?=cur[o']?:=fun o' hi=>by
     have ho:o' < es.length * esz:=Nat.lt_of_not_le fun hle=>k5 o' hle hi
     rw [← M3,abw];simp only [abA];rw [aaB (by rw [abH]; omega),abx,if_pos ho,abp]
    have new:(w.setRow b cur2).heap[b]?=some (.cells cur2 elem (0,0)):=setRow_heap w b cur cur2 elem (0,0) jY;obtain ⟨r0,r1,r2⟩:=h.RZ (cur2:=cur2) (n:=(es.length+(y :: ys).length) * esz) (r1:=.bF (aG ts j (.tok (es.length+(y :: ys).length) b cap))) (go:=.bF (aG fs j (es.length+(y :: ys).length)) esz elem) jH ca ⟨j,_,_,ht⟩
     (vp.set ht ⟨by omega,fun e=>by omega⟩) (fun b' ka=>(Ju ka).elim (fun e=>by rw [e]; exact ⟨j,_,_,ht⟩) (fun x=>x)) jY zo (fun _=>yY.set df ⟨rfl,cur2,new,jM,k3,K8,fun o' pf hi=>by
      rcases hi with hi|⟨_,hi⟩
      ·exact k5 o' (abF (abr _ (Nat.le_add_right _ _)) pf) hi
      ·omega⟩ (fun i f c hi=>df.2.1 i j _ _ _ _ _ hi ht) (fun i f b' c cK hi=>by
       have WC:b'≠b:=fun e=>by subst e; exact cK (df.2.1 i j _ _ _ _ _ hi ht)
       refine ⟨setRow_other w b b' cur2 WC,fun o' pf=>?_⟩;rcases pf with pf|⟨pf,_⟩
       ·exact pf
       ·exact absurd pf WC))
    refine ⟨_,_,_,_,β,gS bK,.inl rfl,r1.put o.dst ?_,by rw [bf]; exact r2⟩;have R5:cur.toList.take (es.length * esz)=xs:=by
     have M4:xs.length=es.length * esz:=x3;apply List.ext_getElem?;intro j;rw [abx];split
     ·rename_i hj;have Rn:j < xs.length:=by omega
      have so:=wN j xs[j] (abn Rn);rw [cZ,abj,cell_of_row w b j cur elem (0,0) jY] at so;rw [abp,so,abn Rn]
     ·rw [abJ (by omega)]
    refine Rel.list (tW (vs:=xs++us) (nh x0 y0) (by rw [dw]; exact (x1.mono r0).append (y1.mono r0)) (ke x2 y2) (fun j v hj=>?_) (fun j hj=>.inr ⟨rfl,by rw [abi,x3,y3,← aaY] at hj; exact hj⟩)) (by simp) jM ⟨_,aV ca,_,aV ht,aaO _,fun _=>⟨rfl,rfl,rfl⟩⟩;rw [cell_of_row _ _ j _ _ _ new,← M3,R5];simp only [abA];rw [aaB (abq.1 hj).1];exact hj
   ·have bK:=hA.grow nH ⟨b,0,none⟩ es.length cap xs (by rw [x3,f2]) wN (by omega) (by omega) (growslice_fits (by omega) (by rw [f3]; exact hb));exact fresh (fun b c=>⟨by omega,fun e=>by omega⟩) bK
theorem xR (h:bq E R w β s a) {t u:TypeId} {id j:Nat} {es:List AV} {y:AV} {ys:List AV} {cx cy:Value} {us:List Value}
  (gS:∀ {c:Value} {w':World},(aau #[t,u] o.type #[cx,cy]).run E.P w=.ok c w'→(execOp a.eval o).run E.P w=.ok (.value c) w')
  {elem esz eb:Nat} {z:AV} (Jy:1≤eb) (hz:z.cells.length=esz) (tF:z.ba=true)
  {ie:TypeInfo} (f2:ie.size=esz) (f3:ie.bytes=eb) (f6:ij ie=some z)
  (h0:Rel R w (.list (.bF id j) esz es) cx) (hA:∀ zc:Value,ie.zero=some zc→Apd E.P w t u o.type elem ie zc cy (y :: ys).length us)
  (y0:kz esz (y :: ys)) (y1:aP R w (aq (y :: ys)) us) (y2:∀ v∈us,v.oneCell'=true) (y3:us.length=(y :: ys).length * esz)
  {fs:List Nat} (jH:nth s.G id=some (.bF fs esz elem)) (yp:RN fs j es.length=true) (hb:(es.length+(y :: ys).length) * eb≤140737488355328) :
  cz E R w β s a o ((s.cP (aG s.G id (.bF (KS fs j (es.length+(y :: ys).length)) esz elem))).put o.dst (.v (.list (.bF id j) esz (es++(y :: ys))))):=by
 unfold RN at yp;rw [Bool.or_eq_true,decide_eq_true_eq,abo] at yp;rcases yp with yp|⟨hj,hl⟩
 ·have cK:Nat.beq j fs.length=false:=by
   cases hb:Nat.beq j fs.length with
   |false=>rfl
   |true=>
    have:=aad hb;have:=cg yp;omega
  unfold KS;rw [cK];exact oq h gS Jy hz tF f2 f3 f6 h0 hA y0 y1 y2 y3 jH yp hb
 ·have zu:KS fs j (es.length+(y :: ys).length)=fs++[es.length+(y :: ys).length]:=by
   unfold KS;rw [hj];rfl
  rw [zu];have hj:=aad hj;have hl:=aad hl;subst hj;have bY:=cg jH;rw [← h.g.len] at bY;obtain ⟨ro,ca⟩:∃ ro,nth R.obj id=some ro:=⟨R.obj[id],by rw [bj]; exact abn bY⟩;obtain ⟨ts,rfl,z1,z2,z3⟩:=h.X8 jH (nfs:=[0]) (nts:=[.bS]) rfl (fun j f t h1 h2=>by
   cases j with
   |zero=>simp only [nth] at h1 h2; cases h1; cases h2; exact rfl
   |succ j=>simp [nth] at h1) (fun j f b c hj=>by
   cases j with
   |zero=>simp only [nth] at hj; cases hj
   |succ j=>simp [nth] at hj) ca
  have key:=oq z2 gS Jy hz tF f2 f3 f6 (h0.mono z3.ext) hA y0 (y1.mono z3.ext) y2 y3 (fs:=fs++[0]) (aV jH) (by rw [hl]; exact fW _ _) hb;have e1:aG (fs++[0]) fs.length (es.length+(y :: ys).length)=fs++[es.length+(y :: ys).length]:=by
   rw [iw,List.set_append_right _ _ (aaO _),Nat.sub_self];rfl
  have e2:∀ x y:GO,aG (aG s.G id x) id y=aG s.G id y:=fun x y=>by rw [iw,iw,iw,List.set_set]
  rw [e1] at key;refine cz.step rfl z3 ?_;have e3:((s.cP (aG s.G id (.bF (fs++[0]) esz elem))).cP (aG (s.cP (aG s.G id (.bF (fs++[0]) esz elem))).G id (.bF (fs++[es.length+(y :: ys).length]) esz elem)))=s.cP (aG s.G id (.bF (fs++[es.length+(y :: ys).length]) esz elem)):=by
   simp only [St.cP,e2]
  rw [e3] at key;exact key
theorem ot (h:bq E R w β s a) {t u:TypeId} {x:AV} {ys:List AV} {cx cy:Value} {us:List Value}
  (gS:∀ {c:Value} {w':World},(aau #[t,u] o.type #[cx,cy]).run E.P w=.ok c w'→(execOp a.eval o).run E.P w=.ok (.value c) w')
  {i:TI} {elem esz eb:Nat} {ag:Bool} {z:AV} (hk:i.k=.sl elem esz ag eb (some z)) (Jy:1≤eb) (hz:z.cells.length=esz) (tF:z.ba=true)
  {ie:TypeInfo} (f1:E.P.info? elem=some ie) (f2:ie.size=esz) (f3:ie.bytes=eb) (f6:ij ie=some z)
  (h0:Rel R w x cx) (hA:∀ zc:Value,ie.zero=some zc→Apd E.P w t u o.type elem ie zc cy ys.length us)
  (y0:kz esz ys) (y1:aP R w (aq ys) us) (y2:∀ v∈us,v.oneCell'=true) (y3:us.length=ys.length * esz)
  {v:AV} {G':List GO} (ha:ik s.G elem esz eb x ys=some (true,v,G')) :
  cz E R w β s a o ((s.cP G').put o.dst (.v v)):=by
 obtain ⟨zc,vf,Hc⟩:=dR f6;have hA':=hA;have hA:=hA zc vf;obtain ⟨d1,d2⟩:=Rel.cells (Hc R w) tF;have rJ:zc.cells.size=esz:=by rw [← hz,d1.length]; simp
 unfold ik at ha;split at ha
 ·-- nothing is appended
  rename_i k sz es;have hus:us=[]:=abu (by simpa using y3);have hG:G'=s.G∧Rel R w v cx:=by
   split at ha
   ·injection ha with ha; injection ha with _ ha; injection ha with p q;subst p; subst q;exact ⟨rfl,h0⟩
   ·injection ha with ha; injection ha with _ ha; injection ha with p q;subst p; subst q;exact ⟨rfl,h0⟩
  obtain ⟨rfl,hvr⟩:=hG;refine ap (s:=s) h (c:=cx) (gS ?_) hvr;cases h0 with
  |mb=>exact hA.zero rfl _ _ _ (aaO 0)
  |j9=>exact hA.zero rfl _ _ _ (aaO 0)
  |oW=>exact hA.zero rfl _ _ _ (aaO 0)
  |oa=>exact hA.zero rfl _ _ _ (aaO 0)
  |oX=>exact hA.zero rfl _ _ _ (aaO 0)
  |list hr hlen jK _=>exact hA.zero rfl _ _ _ jK
 ·-- something is appended
  rename_i k sz es y ys hA;have nH:0 < (y :: ys).length:=by simp
  -- what is shown where a new block has been made
  have grown:∀ {n old:Nat} {xs:List Value} {es':List AV},(es'.length=n)→kz esz es'→aP R w (aq es') xs→(∀ v∈xs,v.oneCell'=true)→xs.length=n * esz →
    (n+(y :: ys).length) * eb≤140737488355328→n+(y :: ys).length≤maxLen→∀ (R':ak) (G2:List GO) (id:Nat),
    bq E R' (w.drew.alloc (.cells (xs.toArray++us.toArray++aao zc.cells (grownCap w (n+(y :: ys).length) old elem - (n+(y :: ys).length))) elem)) β (s.cP G2) a →
    Step R w β s.boxes R' (w.drew.alloc (.cells (xs.toArray++us.toArray++aao zc.cells (grownCap w (n+(y :: ys).length) old elem - (n+(y :: ys).length))) elem)) β s.boxes →
    (∀ j,j < (n+(y :: ys).length) * esz→R'.I w.heap.size j)→nth R'.obj id=some (.tok (n+(y :: ys).length) w.heap.size (grownCap w (n+(y :: ys).length) old elem)) →
    (aau #[t,u] o.type #[cx,cy]).run E.P w=.ok (.slice (some ⟨w.heap.size,0,none⟩) (n+(y :: ys).length) (grownCap w (n+(y :: ys).length) old elem)) (w.drew.alloc (.cells (xs.toArray++us.toArray++aao zc.cells (grownCap w (n+(y :: ys).length) old elem - (n+(y :: ys).length))) elem)) →
    cz E R w β s a o ((s.cP G2).put o.dst (.v (.list (.own id) esz (es'++(y :: ys))))):=by
   intro n old xs es' DA X9 hxr xK Ct _ _ R' G2 id df Jz hI hid bK;refine ⟨_,_,_,R',β,gS bK,.inl rfl,df.put o.dst ?_,by rw [bf]; exact Jz⟩;have e:=Jz.ext;refine Rel.list (tW (vs:=xs++us) (nh X9 y0) (by rw [dw]; exact (hxr.mono e).append (y1.mono e)) (ke xK y2) (fun j v hj=>?_) (fun j hj=>hI j (by rw [abi,Ct,y3,← aaY] at hj; exact hj))) (by simp [DA]) (grownCap_ge w _ _ _) ⟨_,hid,aaO _,fun _=>⟨rfl,rfl,rfl⟩⟩;have qw:(w.drew.alloc (.cells (xs.toArray++us.toArray++aao zc.cells (grownCap w (n+(y :: ys).length) old elem - (n+(y :: ys).length))) elem)).heap[w.heap.size]?=some (.cells (xs.toArray++us.toArray++aao zc.cells (grownCap w (n+(y :: ys).length) old elem - (n+(y :: ys).length))) elem (0,0)):=heap_alloc_new w.drew _;rw [cell_of_row _ _ j _ _ _ qw];have bY:=(abq.1 hj).1;rw [← abp];simp only [abB,abw];rw [← abw,aaB bY];exact hj
  have M5:∀ {n old:Nat} {xs:List Value},xs.length=n * esz→n+(y :: ys).length≤maxLen→(xs.toArray++us.toArray++aao zc.cells (grownCap w (n+(y :: ys).length) old elem - (n+(y :: ys).length))).size=grownCap w (n+(y :: ys).length) old elem * esz:=by
   intro n old xs Ct _;have oP:=grownCap_ge w (n+(y :: ys).length) old elem;simp only [abE,abv,size_zeroCells,rJ,Ct,y3,← aaY];congr 1;omega
  have fresh:∀ {n old:Nat} {xs:List Value} {es':List AV},(es'.length=n)→kz esz es'→aP R w (aq es') xs→(∀ v∈xs,v.oneCell'=true)→xs.length=n * esz →
    (n+(y :: ys).length) * eb≤140737488355328→n+(y :: ys).length≤maxLen →
    (aau #[t,u] o.type #[cx,cy]).run E.P w=.ok (.slice (some ⟨w.heap.size,0,none⟩) (n+(y :: ys).length) (grownCap w (n+(y :: ys).length) old elem)) (w.drew.alloc (.cells (xs.toArray++us.toArray++aao zc.cells (grownCap w (n+(y :: ys).length) old elem - (n+(y :: ys).length))) elem)) →
    cz E R w β s a o ((s.cP (s.G++[.tok (n+(y :: ys).length) esz elem])).put o.dst (.v (.list (.own s.G.length) esz (es'++(y :: ys))))):=by
   intro n old xs es' DA X9 hxr xK Ct hb hm bK;obtain ⟨r1,r2⟩:=h.X0 (cur:=xs.toArray++us.toArray++aao zc.cells (grownCap w (n+(y :: ys).length) old elem - (n+(y :: ys).length))) (elem:=elem) (grownCap_ge w (n+(y :: ys).length) old elem) (grownCap_le_maxLen w _ old elem hm) (M5 Ct hm);exact grown DA X9 hxr xK Ct hb hm _ _ _ r1 r2 (fun j hj=>.inr ⟨rfl,hj⟩) (by rw [← h.g.len]; exact fW _ _) bK
  have R6:∀ {n:Nat},(n+(y :: ys).length) * eb≤140737488355328→n+(y :: ys).length≤140737488355328:=fun {n} hb=>abF (aby _ Jy) hb
  split at ha
  ·-- nil
   injection ha with ha; injection ha with hc ha; injection ha with p q;subst p; subst q;have hb:=of_decide_eq_true hc;cases h0 with
   |list _ _ _ MP=>exact MP.elim
   |mb=>
    simp only [abt] at hb;have hm:=R6 hb;refine fresh (n:=0) (old:=0) (xs:=[]) (es':=[]) rfl (fun e he=>by simp at he) .nil (by simp) (by simp) hb (by unfold maxLen; omega) ?_;have bK:=hA.nil nH (by omega) (by rw [f3]; rw [abj] at hb; omega);simpa using bK
  ·-- as long as its capacity
   split at ha
   ·rename_i gi;have gi:=aad gi;subst gi;injection ha with ha; injection ha with hc ha; injection ha with p q;subst p; subst q;have hb:=of_decide_eq_true hc;have hm:=R6 hb;obtain ⟨x0,xs,x1,x2,x3,x4⟩:=jg (esz:=sz) h0 (.inr rfl);rcases x4 with ⟨rfl,rfl,ad,rfl,hd⟩|⟨b,o',cap,rfl,acD,xk,wN,_⟩
    ·rcases hd with rfl|hd
     ·cases h0
     ·cases hd
    ·have jK:cap=es.length:=xk;subst jK;refine fresh (n:=es.length) (old:=es.length) (xs:=xs) (es':=es) rfl x0 x1 x2 x3 hb (by unfold maxLen; omega) ?_;exact hA.grow nH ⟨b,o',none⟩ es.length es.length xs (by rw [x3,f2]) wN (by omega) (by omega) (growslice_fits (by omega) (by rw [f3]; exact hb))
   ·cases ha
  ·-- of a token
   rename_i id;split at ha
   ·rename_i f bT e' jH;split at ha
    ·rename_i c8;simp only [abo] at c8;obtain ⟨⟨q1,q2⟩,q3⟩:=c8;have q1:=aad q1;have q2:=aad q2;have q3:=aad q3;subst q1; subst q2; subst q3;injection ha with ha; injection ha with hc ha; injection ha with p q;subst p; subst q;simp only [abo] at hc;have yp:=of_decide_eq_true hc.1;have hb:=of_decide_eq_true hc.2;subst yp;have hm:=R6 hb;obtain ⟨x0,xs,x1,x2,x3,x4⟩:=jg (esz:=sz) h0 (.inr rfl);rcases x4 with ⟨rfl,rfl,ad,rfl,hd⟩|⟨b,o',cap,rfl,acD,xk,wN,xE⟩
     ·obtain rfl:ad=none:=by
       rcases hd with hd|hd
       ·exact hd
       ·cases hd
      cases h0 with
      | @oa _ _ ro ca hon=>
      have df:=h.g.obj id _ _ jH ca;cases ro with
      |none=>exact df.elim
      |ck _=>exact df.elim
      |tok f' g c=>
       obtain ⟨rfl,_⟩:=df;simp [oV] at hon
      |bF _=>exact df.elim
      |bS=>
       simp only [abt] at hb;have bK:=hA.nil nH (by omega) (by rw [f3]; rw [abj] at hb; omega);have gi:=M5 (n:=0) (old:=0) (xs:=[]) (by simp) (by unfold maxLen; omega);obtain ⟨r1,r2⟩:=h.MZ (cur:=[].toArray++us.toArray++aao zc.cells (grownCap w (0+(y :: ys).length) 0 e' - (0+(y :: ys).length))) (elem:=e') (n:=0+(y :: ys).length) (cap:=grownCap w (0+(y :: ys).length) 0 e') jH ca (fun b c=>by simp only [cV]; omega) (grownCap_ge w _ _ _) (grownCap_le_maxLen w _ _ _ (by unfold maxLen; omega)) gi;exact grown (n:=0) (es':=[]) rfl (fun e he=>by simp at he) .nil (by simp) (by simp) hb (by unfold maxLen; omega) _ _ _ r1 r2 (fun j hj=>.inr ⟨rfl,hj⟩) (aV ca) (by simpa using bK)
     ·obtain ⟨ro,ca,yo⟩:=xk;have df:=h.g.obj id _ _ jH ca;cases ro with
      |none=>exact df.elim
      |bS=>exact yo.elim
      |ck _=>exact df.elim
      |bF _=>exact df.elim
      |tok f' g c=>
       obtain ⟨rfl,cur,jY,k1,k3,k4,k5⟩:=df;obtain ⟨rfl,rfl,rfl⟩:=yo.2 rfl;by_cases jM:es.length+(y :: ys).length≤cap
       ·have hle:(es.length+(y :: ys).length) * sz≤cap * sz:=abr _ jM;have bK:=hA.room nH b es.length cap cur jY jM (by rw [f2,y3,← aaY,k4]; exact hle);rw [f2] at bK;obtain ⟨r0,r1,r2⟩:=h.RX (news:=us) (n:=es.length+(y :: ys).length) jH ca (by omega) jM jY k4 k3 (by rw [y3,← aaY]);refine ⟨_,_,_,_,β,gS bK,.inl rfl,r1.put o.dst ?_,by rw [bf]; exact r2⟩;have qw:=setRow_heap w b cur (cur.toList.take (es.length * sz)++us++cur.toList.drop (es.length * sz+us.length)).toArray e' (0,0) jY;have R5:cur.toList.take (es.length * sz)=xs:=by
         have M4:xs.length=es.length * sz:=x3;apply List.ext_getElem?;intro j;rw [abx];split
         ·rename_i hj;have Rn:j < xs.length:=by omega
          have so:=wN j xs[j] (abn Rn);rw [cZ,abj,cell_of_row w b j cur e' (0,0) jY] at so;rw [abp,so,abn Rn]
         ·rw [abJ (by omega)]
        refine Rel.list (tW (vs:=xs++us) (nh x0 y0) (by rw [dw]; exact (x1.mono r0).append (y1.mono r0)) (ke x2 y2) (fun j v hj=>?_) (fun j hj=>.inr ⟨rfl,by rw [abi,x3,y3,← aaY] at hj; exact hj⟩)) (by simp) jM ⟨_,aV ca,aaO _,fun _=>⟨rfl,rfl,rfl⟩⟩;rw [cell_of_row _ _ j _ _ _ qw,R5];simp only [abA];rw [aaB (abq.1 hj).1];exact hj
       ·have bK:=hA.grow nH ⟨b,0,none⟩ es.length cap xs (by rw [x3,f2]) wN (by omega) (by omega) (growslice_fits (by omega) (by rw [f3]; exact hb));obtain ⟨r1,r2⟩:=h.MZ (cur:=xs.toArray++us.toArray++aao zc.cells (grownCap w (es.length+(y :: ys).length) cap e' - (es.length+(y :: ys).length))) (elem:=e') (n:=es.length+(y :: ys).length) (cap:=grownCap w (es.length+(y :: ys).length) cap e') jH ca (fun b c=>⟨by omega,fun e=>by omega⟩) (grownCap_ge w _ _ _) (grownCap_le_maxLen w _ _ _ (by unfold maxLen; omega)) (M5 x3 (by unfold maxLen; omega));exact grown rfl x0 x1 x2 x3 hb (by unfold maxLen; omega) _ _ _ r1 r2 (fun j hj=>.inr ⟨rfl,hj⟩) (aV ca) bK
    ·cases ha
   ·cases ha
  ·-- of a member of a family
   rename_i id j;split at ha
   ·rename_i fs bT e' jH;split at ha
    ·rename_i c8;simp only [abo] at c8;obtain ⟨⟨q1,q2⟩,q3⟩:=c8;have q1:=aad q1;have q2:=aad q2;have q3:=aad q3;subst q1; subst q2; subst q3;injection ha with ha; injection ha with hc ha; injection ha with p q;subst p; subst q;simp only [abo,decide_eq_true_eq] at hc;exact xR h gS Jy hz tF f2 f3 f6 h0 (fun zc' Ya=>hA' zc' Ya) y0 y1 y2 y3 jH hc.1 hc.2
    ·cases ha
   ·cases ha
  ·cases ha
 ·-- a slice that grows, and nothing
  injection ha with ha; injection ha with _ ha; injection ha with p q;subst p; subst q;refine ap (s:=s) h (c:=cx) (gS ?_) h0;cases h0 with
  |jX=>exact hA.zero rfl _ _ _ (aaO 0)
  |dM _ _ jK=>exact hA.zero rfl _ _ _ jK
 ·-- a slice that grows
  rename_i id f' off sz len y ys hA;split at ha
  ·rename_i es bT e' jH;split at ha
   ·rename_i c8;simp only [abo] at c8;obtain ⟨⟨q1,q2⟩,q3⟩:=c8;have q1:=aad q1;have q2:=aad q2;have q3:=aad q3;subst q1; subst q2; subst q3;injection ha with ha; injection ha with hc ha; injection ha with p q;subst p; subst q;simp only [abo,decide_eq_true_eq] at hc;exact xQ h gS Jy hz tF f2 f3 f6 h0 (fun zc' Ya=>hA' zc' Ya) y0.g y1 y2 y3 jH hc.1.1.1 hc.1.1.2 hc.1.2 hc.2
   ·cases ha
  ·cases ha
 ·cases ha
theorem Fe (h:bq E R w β s a) {args:Array Operand} {t:TypeId} (ho:o.op=.call { callee:=.builtin .append,args:=args,argTypes:=#[t,t] }) {x:AV} {k2:LK} {sq:Nat} {ys:List AV}
  (hl:oR E s.ab args.toList=some [x,.list k2 sq ys]) {i:TI} (hi:E.ti t=some i) {elem esz eb:Nat} {ag:Bool} {z:AV} (hk:i.k=.sl elem esz ag eb (some z)) (K8:ys=[]∨sq=esz) (ak2:1≤esz) (Jy:1≤eb) (hz:z.cells.length=esz) (tF:z.ba=true)
  {v:AV} {G':List GO} (ha:ik s.G elem esz eb x ys=some (true,v,G')) :
  cz E R w β s a o ((s.cP G').put o.dst (.v v)):=by
 have hr:=iW h hl;generalize hv:args.toList.map a.eval=vs at hr;have hx:=gu (E:=E) (w:=w) ho vs hv;cases hr with
 | @cons _ cx _ _ h0 h1=>
 cases h1 with
 | @cons _ cy _ _ h1 h2=>
 cases h2;obtain ⟨je,u,e1,e2,e3,e4,e5,e6⟩:=cJ E hi;have Co:=hk;rw [hk] at e5;obtain ⟨ie,ue,rfl,f1,f2,f3,f4,f5,f6⟩:=fB e5;have wO:(⟨[cx,cy]⟩:Array Value)=#[cx,cy]:=rfl;obtain ⟨y0,us,y1,y2,y3,y4⟩:=jg (esz:=esz) h1 K8;refine ot h (cx:=cx) (cy:=cy) (t:=t) (u:=t) (fun hh=>?_) Co Jy hz tF f1 f2 f3 f6 h0 (fun zc vf=>?_) y0 y1 y2 y3 ha
 ·rw [hx];simp only [builtin,wO,Sem.run_bind,hh,abM,Sem.run_pure]
 ·rcases y4 with ⟨rfl,rfl,ad,rfl,_⟩|⟨by',oy,Yb,rfl,ak3,_,M6,yE⟩
  ·refine ⟨fun _ base len cap Jr=>?_,fun hh=>absurd hh (by simp),fun hh=>absurd hh (by simp),fun hh=>absurd hh (by simp)⟩;cases ad <;> simp [aau,run_underlying e2,run_sizeOf w f1,abK,abD,Jr,storeCells,loadCells,loadCellsFrom] <;>
    cases base <;> simp [storeCells]
  ·refine ⟨fun hn base len cap Jr=>?_,fun hh Yc Yd=>run_append_nil (P:=E.P) w t o.type elem ie zc e2 f1 vf _ _ Yb us (by rw [y3,f2]) M6 hh Yc Yd,fun _ b sLen qy HK HL WK hg Yc Yd=>run_append_grow (P:=E.P) w t o.type elem ie zc e2 f1 vf b sLen qy HK HL WK _ _ Yb us (by rw [y3,f2]) M6 hg Yc Yd,fun _ g sLen qy cur hg jM xS=>run_append_room (P:=E.P) w t o.type elem ie e2 f1 g sLen qy cur hg _ _ Yb us (by rw [y3,f2]) M6 y2 jM xS⟩;rw [hn];simp [aau,run_underlying e2,run_sizeOf w f1,abK,abD,Jr,storeCells,loadCells,loadCellsFrom];cases base <;> simp [storeCells]
theorem zv:∀ (bs:List UInt8),aP R w (aq (bs.map tM)) (abI ⟨⟨bs⟩⟩)
 |[]=>.nil
 |b :: bs=>.cons (Rel.int .u8 b.toNat) (zv bs)
theorem xT (h:bq E R w β s a) {args:Array Operand} {t u:TypeId} (ho:o.op=.call { callee:=.builtin .append,args:=args,argTypes:=#[t,u] }) {x:AV} {bs:List UInt8}
  (hl:oR E s.ab args.toList=some [x,.str bs]) {i j:TI} (hi:E.ti t=some i) (hj:E.ti u=some j) {elem eb:Nat} {ag:Bool} {z:AV} (hk:i.k=.sl elem 1 ag eb (some z)) (hjk:j.k=.str) (Jy:1≤eb) (hz:z.cells.length=1) (tF:z.ba=true)
  {v:AV} {G':List GO} (ha:ik s.G elem 1 eb x (bs.map tM)=some (true,v,G')) :
  cz E R w β s a o ((s.cP G').put o.dst (.v v)):=by
 have hr:=iW h hl;generalize hv:args.toList.map a.eval=vs at hr;have hx:=gu (E:=E) (w:=w) ho vs hv;cases hr with
 | @cons _ cx _ _ h0 h1=>
 cases h1 with
 | @cons _ cy _ _ h1 h2=>
 cases h2;obtain ⟨je,ud,e1,e2,e3,e4,e5,e6⟩:=cJ E hi;obtain ⟨acG,ud',g1,g2,g3,g4,g5,g6⟩:=cJ E hj;rw [hjk] at g5;have:=mc g5;subst this;have Co:=hk;rw [hk] at e5;obtain ⟨ie,ue,rfl,f1,f2,f3,f4,f5,f6⟩:=fB e5;cases h1;have gi:(⟨⟨bs⟩⟩:ByteArray).size=bs.length:=rfl;have hlen:(bs.map tM).length=bs.length:=List.length_map _;have wO:(⟨[cx,.string ⟨⟨bs⟩⟩]⟩:Array Value)=#[cx,.string ⟨⟨bs⟩⟩]:=rfl;have jN:(abI ⟨⟨bs⟩⟩).length=bs.length:=Lib.strCells_length _;refine ot h (cx:=cx) (cy:=.string ⟨⟨bs⟩⟩) (us:=abI ⟨⟨bs⟩⟩) (t:=t) (u:=u) (fun hh=>?_) Co Jy hz tF f1 f2 f3 f6 h0 (fun zc vf=>?_) ?_ (zv bs) (Lib.strCells_oneCell _) (by rw [jN,hlen,Nat.mul_one]) ha
 ·rw [hx];simp only [builtin,wO,Sem.run_bind,hh,abM,Sem.run_pure]
 ·rw [hlen];refine ⟨fun hn base len cap Jr=>?_,fun hh Yc Yd=>?_,fun _ b sLen qy HK HL WK hg Yc Yd=>Lib.run_append_grow_string (P:=E.P) w t u o.type elem ie zc e2 g2 f1 vf b sLen qy HK HL WK ⟨⟨bs⟩⟩ hg Yc Yd,fun _ g sLen qy cur hg jM xS=>?_⟩
  ·have hb:bs=[]:=abu hn;subst hb;have hz0:(⟨⟨[]⟩⟩:ByteArray).size=0:=rfl;simp [hz0,aau,run_underlying e2,run_underlying g2,run_sizeOf w f1,abK,abD,Jr,storeCells];cases base <;> simp [storeCells]
  ·rw [run_append_nil_string (P:=E.P) w t u o.type elem ie zc e2 g2 f1 vf ⟨⟨bs⟩⟩ hh Yc Yd];simp [abI,gi]
  ·have:=Lib.run_append_room_string (P:=E.P) w t u o.type elem ie e2 g2 f1 f2 g sLen qy cur hg ⟨⟨bs⟩⟩ jM (by rw [f2,Nat.mul_one,jN] at xS; exact xS);rw [this,f2,Nat.mul_one,jN];rfl
 ·intro e he;obtain ⟨b,_,rfl⟩:=List.mem_map.1 he;exact ⟨rfl,rfl,rfl⟩
end ops
end Go.Am
