/- The abstract machine: what it does is what the model does: append and copy. -/
import Derived.Test.YtldcljfjjoidhaaGreatDoorAmKC
import Derived.Lib.AppendStr
set_option linter.all false
open Array renaming getElem?_toList→aaY, toList_append→abK, length_toList→abN, size_append→abP
open Bool renaming and_eq_true→aaX
open Go.Builtin renaming zeroCells→aab, append_→aac, firstCells→abO, lenOf→abV
open Go.Lib renaming strCells→abT
open Go.Result renaming andThen_ok→abX
open List renaming getElem?_append_left→aax, length_append→aaH, getElem?_eq_getElem→aaR, getElem?_eq_some_iff→aaZ, length_nil→aa4, eq_nil_of_length_eq_zero→aa5, size_toArray→aa6, append_assoc→aa9, getElem?_take→aba, length_cons→abu, getElem?_toArray→abJ, length_take→abS, getElem?_eq_none→abU
open Nat renaming eq_of_beq_eq_true→aaa, le_refl→aaB, add_mul→aaC, zero_add→aaM, mul_le_mul_right→aa3, le_mul_of_pos_right→abq, le_trans→abQ, zero_mul→abR
namespace Go.Am
open Go
section fams
variable {E:Env} {R R':ak} {w w':World} {β β':Nat→Nat} {s s':St} {a a':Act} {o:Oper}
theorem v8 {α:Type} {l r:List α} {i:Nat} {x:α} (h:nth l i=some x):nth (l++r) i=some x:=by
 have:=b7 h;rw [bg] at *;rw [aax this];exact h
theorem dS {α:Type} {l r:List α} {i:Nat} {x:α} (h:nth (l++r) i=some x):nth l i=some x∨∃ j,i=l.length+j∧nth r j=some x:=by
 rw [bg] at h;rcases Nat.lt_or_ge i l.length with bZ|mz
 ·rw [aax bZ] at h;exact .inl (by rw [bg]; exact h)
 ·rw [List.getElem?_append_right mz] at h;exact .inr ⟨i - l.length,by omega,by rw [bg]; exact h⟩
theorem bl.U3 (h:bl E R w β s a) {id sz:Nat} {e:TypeId} {fs:List Nat} (hid:nth s.G id=some (.bB fs sz e)) {nfs:List Nat} {nts:List TR} (hl:nts.length=nfs.length)
  (eJ:∀ j f t,nth nfs j=some f→nth nts j=some t→AU R w sz e f t) (uq:∀ j f b c,nth nts j≠some (.tok f b c)) {ro:RO} (b6:nth R.obj id=some ro) :
  ∃ ts,ro=.bB ts∧ts.length=fs.length∧bl E (R.reset id (.bB (ts++nts))) w β (s.cD (aF s.G id (.bB (fs++nfs) sz e))) a∧Step R w β s.boxes (R.reset id (.bB (ts++nts))) w β s.boxes:=by
 have cR:=h.g.obj id _ _ hid b6;cases ro with
 |none=>exact cR.elim
 |bO=>exact cR.elim
 |ca _=>exact cR.elim
 |tok _ _ _=>exact cR.elim
 |bB ts=>
 obtain ⟨q1,q2,q3⟩:=cR;have xG:∀ b,RO.has (.bB (ts++nts)) b→RO.has (.bB ts) b:=fun b ⟨j,f,c,hj⟩=>by
  rcases dS hj with hj|⟨i,_,hi⟩
  ·exact ⟨j,f,c,hj⟩
  ·exact absurd hi (uq i f b c)
 have ext:Ext R w (R.reset id (.bB (ts++nts))) w:=⟨fun _ _ h=>h,fun _ _ _=>rfl,fun i r hr=>by
  by_cases e:id=i
  ·subst e;rw [b6] at hr;cases hr;exact ⟨_,aN b6,fun j t hj=>⟨t,v8 hj,mf.refl t⟩⟩
  ·exact ⟨r,by rw [ak.reset,cj e]; exact hr,cF.refl r⟩,gE.refl w⟩
 have live:∀ b,Live (R.reset id (.bB (ts++nts))) b→Live R b:=fun b ⟨i,r,h1,h2⟩=>by
  rcases aD b6 h1 with ⟨_,rfl⟩|⟨_,h1⟩
  ·exact ⟨id,_,b6,xG b h2⟩
  ·exact ⟨i,r,h1,h2⟩
 refine ⟨ts,rfl,q1,⟨⟨by simp [St.cD,ak.reset,h.g.len],fun i g r h1 h2=>?_,fun i j ri rj b h1 h2 b1 b2=>?_,h.g.wf,fun g cs hg=>(h.g.ck g cs hg).mono ext,h.g.lo⟩,h.b.aW ext (fun _ _ _=>rfl) (fun _ _ _ _ h=>h) (fun _ _ _ hl=>live _ hl),h.t.mono ext,h.n,h.d.mono ext⟩,?_⟩
 ·rcases aD b6 h2 with ⟨rfl,rfl⟩|⟨cQ,h2⟩
  ·simp only [St.cD] at h1;rw [aN hid] at h1;cases h1;refine ⟨by simp [q1,hl],fun i j f b c f' c' hi hj=>?_,fun j f t hf ht=>?_⟩
   ·rcases dS hi with hi|⟨_,_,hi⟩
    ·rcases dS hj with hj|⟨_,_,hj⟩
     ·exact q2 i j _ _ _ _ _ hi hj
     ·exact absurd hj (uq _ _ _ _)
    ·exact absurd hi (uq _ _ _ _)
   ·rcases dS hf with OX|⟨k,hk,OX⟩
    ·rcases dS ht with ht|⟨k',iG,ht⟩
     ·exact q3 j f t OX ht
     ·have:=b7 OX;omega
    ·rcases dS ht with ht|⟨k',iG,ht⟩
     ·have:=b7 ht;omega
     ·have KN:k=k':=by omega
      subst KN;exact eJ k f t OX ht
  ·simp only [St.cD] at h1;rw [cj (Ne.symm cQ)] at h1;exact (h.g.obj i g r h1 h2).mono ext (fun _ _=>rfl) (fun _ _ _ h=>h)
 ·rcases aD b6 h1 with ⟨g3,e1⟩|⟨g3,g1⟩
  ·rcases aD b6 h2 with ⟨g4,e2⟩|⟨g4,g2⟩
   ·omega
   ·rw [e1] at b1;exact g3.trans (h.g.inj id j _ _ b b6 g2 (xG b b1) b2)
  ·rcases aD b6 h2 with ⟨g4,e2⟩|⟨g4,g2⟩
   ·rw [e2] at b2;exact (h.g.inj i id _ _ b g1 b6 b1 (xG b b2)).trans g4.symm
   ·exact h.g.inj i j ri rj b g1 g2 b1 b2
 ·refine ⟨ext,rfl,rfl,rfl,aaB _,fun _ _ _=>rfl,fun b _ ho=>?_,fun _ _ h _ _=>h⟩;rcases ho with ho|ho
  ·exact .inl (live b ho)
  ·exact .inr ho
theorem cm.step {s1:St} {s2:St} (e:s1.boxes=s.boxes) (st:Step R w β s.boxes R' w β s.boxes) (h:cm E R' w β s1 a o s2):cm E R w β s a o s2:=by
 obtain ⟨nx,x,w',R2,β',h1,h2,h3,h4⟩:=h;rw [e] at h4;exact ⟨nx,x,w',R2,β',h1,h2,h3,st.trans h4⟩
theorem YU {c:Bool} {α:Type} {a b:α} (h:(bif c then some a else none)=some b):c=true∧a=b:=by
 cases c
 ·cases h
 ·exact ⟨rfl,Option.some.inj h⟩
theorem xL {sz:Nat} {e:TypeId}:∀ {G:List GO} {i j:Nat},lC G sz e i=some j→∃ fs,nth G (j - i)=some (.bB fs sz e)∧i≤j
 |[],i,j,h=>by cases h
 |g :: G,i,j,h=>by
  have step:lC G sz e (i+1)=some j→∃ fs,nth (g :: G) (j - i)=some (.bB fs sz e)∧i≤j:=fun h=>by
   obtain ⟨fs,h1,h2⟩:=xL h;refine ⟨fs,?_,by omega⟩;rw [show j - i=(j - (i+1))+1 by omega];exact h1
  unfold lC at h;split at h
  ·rename_i lG;cases lG
  ·rename_i lG;obtain ⟨rfl,rfl⟩:=List.cons.inj lG;split at h
   ·rename_i j' hj;cases h;exact step hj
   ·obtain ⟨hc,rfl⟩:=YU h
    ·rw [aaX] at hc;have h1:=aaa hc.1;have h2:=aaa hc.2;subst h1 h2;exact ⟨_,by rw [Nat.sub_self]; rfl,aaB _⟩
  ·rename_i x G1 _ _ _ hn lG;obtain ⟨rfl,rfl⟩:=List.cons.inj lG;exact step h
theorem bl.K0 {s0:St} {d:Option Tmp} {x y:AV} (h:bl E R w β (s0.put d (.v x)) a) (hw:∀ c,Rel R w x c→Rel R w y c):bl E R w β (s0.put d (.v y)) a:=by
 cases d with
 |none=>exact h
 |some d=>
  simp only [St.put] at h ⊢;cases hb:Nat.blt d s0.n with
  |false=>rw [hb] at h; exact h
  |true=>
   rw [hb] at h;refine ⟨h.g,h.b,fun i hi=>?_,h.n,h.d⟩;by_cases e:d=i
   ·subst e;rw [ay];obtain ⟨c,k1,k2⟩:=h.t d (by rw [ay]; simp);rw [ay] at k2;exact ⟨c,k1,hw c k2⟩
   ·rw [aQ e] at hi ⊢;have:=h.t i (by rw [aQ e]; exact hi);rw [aQ e] at this;exact this
theorem cm.K0 {s0:St} {x y:AV} (h:cm E R w β s a o (s0.put o.dst (.v x))) (hw:∀ R' w',Ext R w R' w'→∀ c,Rel R' w' x c→Rel R' w' y c):cm E R w β s a o (s0.put o.dst (.v y)):=by
 obtain ⟨nx,v,w',R',β',h1,h2,h3,h4⟩:=h;refine ⟨nx,v,w',R',β',h1,h2,h3.K0 (hw R' w' h4.ext),?_⟩;rw [a6] at h4 ⊢;exact h4
end fams
section ops
variable {E:Env} {R:ak} {w:World} {β:Nat→Nat} {s:St} {a:Act} {o:Oper}
theorem hY {k:LK} {sz esz:Nat} {es:List AV} {c:Value} (h:Rel R w (.list k sz es) c) (eY:es=[]∨sz=esz) :
  jt esz es∧∃ vs,aK R w (aq es) vs∧(∀ v∈vs,v.oneCell'=true)∧vs.length=es.length * esz ∧
   ((es=[]∧vs=[]∧∃ ad,c=.slice ad 0 0∧(ad=none∨k=.lq))∨∃ b o' cap,c=.slice (some ⟨b,o',none⟩) es.length cap∧es.length≤cap∧BU R k b o' es.length cap∧(∀ j v,vs[j]?=some v→w.cell? ((⟨b,o',none⟩:Addr).add j)=some v)∧gl R w b o' esz es):=by
 cases h with
 |kz=>exact ⟨fun e he=>by simp at he,[],.nil,by simp,by simp,.inl ⟨rfl,rfl,_,rfl,.inl rfl⟩⟩
 |ja=>exact ⟨fun e he=>by simp at he,[],.nil,by simp,by simp,.inl ⟨rfl,rfl,_,rfl,.inl rfl⟩⟩
 |nI=>exact ⟨fun e he=>by simp at he,[],.nil,by simp,by simp,.inl ⟨rfl,rfl,_,rfl,.inr rfl⟩⟩
 |mH=>exact ⟨fun e he=>by simp at he,[],.nil,by simp,by simp,.inl ⟨rfl,rfl,_,rfl,.inl rfl⟩⟩
 |nJ=>exact ⟨fun e he=>by simp at he,[],.nil,by simp,by simp,.inl ⟨rfl,rfl,_,rfl,.inl rfl⟩⟩
 | @list _ _ _ b o' len cap hr hlen hU KN=>
  subst hlen;have mh:gl R w b o' esz es:=by
   rcases eY with rfl|rfl
   ·exact .nil
   ·exact hr
  obtain ⟨g0,vs,g1,g2,g3,g4⟩:=xB mh;refine ⟨g0,vs,g1,g2,by rw [← g1.length,dO g0],.inr ⟨b,o',cap,rfl,hU,KN,fun j v hv=>?_,mh⟩⟩;rw [cH];exact g3 j v hv
theorem sO {b esz:Nat} {es:List AV} {vs:List Value} {w:World} {R:ak} (h0:jt esz es) (h:aK R w (aq es) vs) (h1:∀ v∈vs,v.oneCell'=true)
  (hc:∀ j v,vs[j]?=some v→w.cell? ⟨b,j,none⟩=some v) (hI:∀ j,j < vs.length→R.I b j):gl R w b 0 esz es:=
 mM h0 (dR.make h h1 (fun j v hv=>by rw [aaM]; exact hc j v hv) (fun j hj=>by rw [aaM]; exact hI j (by rw [← h.length]; exact hj)))
theorem lI {sz:Nat} {l r:List AV} (h:jt sz l) (k:jt sz r):jt sz (l++r):=fun e he=>by
 rcases List.mem_append.1 he with he|he
 ·exact h e he
 ·exact k e he
theorem jd {l r:List Value} (h:∀ v∈l,v.oneCell'=true) (k:∀ v∈r,v.oneCell'=true):∀ v∈l++r,v.oneCell'=true:=fun v hv=>by
 rcases List.mem_append.1 hv with hv|hv
 ·exact h v hv
 ·exact k v hv
structure Apd (P:Program) (w:World) (t u ty e:TypeId) (i:TypeInfo) (z:Value) (cy:Value) (n:Nat) (us:List Value):Prop where
 zero:n=0→∀ base len cap,len≤cap→(aac #[t,u] ty #[.slice base len cap,cy]).run P w=.ok (.slice base len cap) w
 nil:0 < n→(n:Int)≤9223372036854775807→n * i.bytes≤281474976710656→(aac #[t,u] ty #[.slice none 0 0,cy]).run P w =
   .ok (.slice (some ⟨w.heap.size,0,none⟩) n (grownCap w n 0 e)) (w.drew.alloc (.cells (us.toArray++aab z.cells (grownCap w n 0 e - n)) e))
 grow:0 < n→∀ (b:Addr) (sLen pj:Nat) (FL:List Value),FL.length=sLen * i.size→(∀ j v,FL[j]?=some v→w.cell? (b.add j)=some v)→pj < sLen+n→((sLen+n:Nat):Int)≤9223372036854775807→Builtin.nextslicecap (sLen+n) pj * i.bytes≤281474976710656 →
   (aac #[t,u] ty #[.slice (some b) sLen pj,cy]).run P w=.ok (.slice (some ⟨w.heap.size,0,none⟩) (sLen+n) (grownCap w (sLen+n) pj e))
    (w.drew.alloc (.cells (FL.toArray++us.toArray++aab z.cells (grownCap w (sLen+n) pj e - (sLen+n))) e))
 room:0 < n→∀ (g sLen pj:Nat) (cur:Array Value),w.heap[g]?=some (.cells cur e (0,0))→sLen+n≤pj→sLen * i.size+us.length≤cur.size →
   (aac #[t,u] ty #[.slice (some ⟨g,0,none⟩) sLen pj,cy]).run P w=.ok (.slice (some ⟨g,0,none⟩) (sLen+n) pj) (w.setRow g (cur.toList.take (sLen * i.size)++us++cur.toList.drop (sLen * i.size+us.length)).toArray)
theorem we (h:bl E R w β s a) {t u:TypeId} {id f off sz len:Nat} {y:AV} {ys:List AV} {cx cy:Value} {us:List Value}
  (fM:∀ {c:Value} {w':World},(aac #[t,u] o.type #[cx,cy]).run E.P w=.ok c w'→(execOp a.eval o).run E.P w=.ok (.value c) w')
  {elem esz eb:Nat} {z:AV} (HH:1≤eb) (hz:z.cells.length=esz) (su:z.aY=true)
  {ie:TypeInfo} (f2:ie.size=esz) (f3:ie.bytes=eb) (f6:gf ie=some z)
  (h0:Rel R w (.eu id f off sz len) cx) (hA:∀ zc:Value,ie.zero=some zc→Apd E.P w t u o.type elem ie zc cy (y :: ys).length us)
  (y0:dM esz (y :: ys)) (y1:aK R w (aq (y :: ys)) us) (y2:∀ v∈us,v.oneCell'=true) (y3:us.length=(y :: ys).length * esz)
  {es:List AV} (hid:nth s.G id=some (.dV es esz elem)) (hf:f=es.length) (ho0:off=0) (uk:len=f) (hb:(es.length+(y :: ys).length) * eb≤140737488355328) :
  cm E R w β s a o ((s.cD (aF s.G id (.dV (es++(y :: ys)) esz elem))).put o.dst (.v (.eu id (es.length+(y :: ys).length) 0 esz (es.length+(y :: ys).length)))):=by
 obtain ⟨zc,tR,Fa⟩:=dj f6;have hA:=hA zc tR;obtain ⟨d1,d2⟩:=Rel.cells (Fa R w) su;have ql:zc.cells.size=esz:=by rw [← hz,d1.length]; simp
 have pn:0 < (y :: ys).length:=by simp
 have hm:es.length+(y :: ys).length≤140737488355328:=abQ (abq _ HH) hb;have Dm:(es++(y :: ys)).length=es.length+(y :: ys).length:=aaH
 -- where a new block has been made
 have fresh:∀ {xs:List Value} {old:Nat} {r0:RO},nth R.obj id=some r0→(∀ b c,cF r0 (.tok (es.length+(y :: ys).length) b c))→dM esz es→aK R w (aq es) xs→(∀ v∈xs,v.oneCell'=true)→xs.length=es.length * esz →
   (aac #[t,u] o.type #[cx,cy]).run E.P w=.ok (.slice (some ⟨w.heap.size,0,none⟩) (es.length+(y :: ys).length) (grownCap w (es.length+(y :: ys).length) old elem)) (w.drew.alloc (.cells (xs.toArray++us.toArray++aab zc.cells (grownCap w (es.length+(y :: ys).length) old elem - (es.length+(y :: ys).length))) elem)) →
   cm E R w β s a o ((s.cD (aF s.G id (.dV (es++(y :: ys)) esz elem))).put o.dst (.v (.eu id (es.length+(y :: ys).length) 0 esz (es.length+(y :: ys).length)))):=by
  intro xs old r0 b6 hle Kp YV vW A5 bE;have mz:=grownCap_ge w (es.length+(y :: ys).length) old elem;obtain ⟨r1,r2⟩:=h.U2 (cur:=xs.toArray++us.toArray++aab zc.cells (grownCap w (es.length+(y :: ys).length) old elem - (es.length+(y :: ys).length))) (vs:=xs++us) (es':=es++(y :: ys)) hid b6 (by rw [Dm]; exact hle) (by rw [Dm]; exact mz) (grownCap_le_maxLen w _ old elem (by unfold maxLen; omega)) (by
   simp only [abP,aa6,size_zeroCells,ql,A5,y3,← aaC];congr 1;omega) (sN Kp y0) (by rw [cX]; exact YV.append y1) (jd vW y2) (by
   rw [Dm];simp only [abK];exact List.take_left' (by rw [aaH,A5,y3,aaC]))
  rw [Dm] at r1 r2;refine ⟨_,_,_,_,β,fM bE,.inl rfl,r1.put o.dst ?_,by rw [a6]; exact r2⟩;exact Rel.eu (aN b6) ⟨aaB _,fun _=>⟨rfl,aaM _,.inl (abR _).symm⟩⟩ mz
 cases h0 with
 | @iV _ _ ro b6 hon=>
  have cR:=h.g.obj id _ _ hid b6;have he0:es=[]:=aa5 hf.symm;subst he0;cases ro with
  |none=>exact cR.elim
  |ca _=>exact cR.elim
  |bB _=>exact cR.elim
  |tok f' g c=>
   obtain ⟨rfl,_⟩:=cR;simp [nH] at hon
  |bO=>
   simp only [aa4] at hb;have bE:=hA.nil pn (by omega) (by rw [f3]; rw [aaM] at hb; omega);exact fresh (xs:=[]) (old:=0) b6 (fun b c=>by simp only [cF]; omega) (fun e he=>by simp at he) .nil (by simp) (by simp) (by simpa using bE)
 | @eu _ _ _ _ _ cap b o' ro b6 eJ hU=>
  subst hf; subst ho0; subst uk;obtain ⟨b',c',cur,vs,rfl,g1,g2,g3,g4,g5,g6,g7,g8,g9⟩:=lH h.g hid b6 (fun k=>by subst k; exact eJ);obtain ⟨rfl,HI,tS⟩:=eJ.2 rfl;rw [aaM] at HI;subst HI;have TE:vs.length=es.length * esz:=by rw [← g7.length,dm g1]
  have fT:∀ j v,vs[j]?=some v→cur[j]?=some v:=fun j v hj=>by
   rw [← g9,aba] at hj;split at hj
   ·rw [← aaY]; exact hj
   ·cases hj
  by_cases iI:es.length+(y :: ys).length≤cap
  ·have oP:o'=0:=by
    rcases tS with tS|tS
    ·rw [tS,abR]
    ·rw [abu] at iI; omega
   subst oP;have hle:(es.length+(y :: ys).length) * esz≤cap * esz:=aa3 _ iI;have bE:=hA.room pn b es.length cap cur g2 iI (by rw [f2,y3,← aaC,g5]; exact hle);rw [f2] at bE;have jm:cur.toList.length=cap * esz:=by rw [show cur.toList.length=cur.size from abN,g5]
   obtain ⟨r1,r2⟩:=h.Po (cur2:=(cur.toList.take (es.length * esz)++us++cur.toList.drop (es.length * esz+us.length)).toArray) (vs:=vs++us) (es':=es++(y :: ys)) hid b6 (by rw [Dm]; omega) (by rw [Dm]; exact iI) g2 (by
    rw [aa6,← abN];simp only [aaH,abS,List.length_drop,y3,jm];rw [aaC] at hle;omega) (sN g1 y0) (by rw [cX]; exact g7.append y1) (jd g8 y2) (by
    rw [Dm,List.toList_toArray,g9];exact List.take_left' (by rw [aaH,TE,y3,aaC]))
   rw [Dm] at r1 r2;refine ⟨_,_,_,_,β,fM bE,.inl rfl,r1.put o.dst ?_,by rw [a6]; exact r2⟩;exact Rel.eu (aN b6) ⟨aaB _,fun _=>⟨rfl,aaM _,.inl (abR _).symm⟩⟩ iI
  ·have bE:=hA.grow pn ⟨b,o',none⟩ es.length cap vs (by rw [TE,f2]) (fun j v hj=>by
    rw [cH];have OU:=(aaZ.1 hj).1;have oP:o'=0:=by
     rcases tS with tS|tS
     ·rw [tS,abR]
     ·have:es.length=0:=by omega
      rw [TE,this] at OU;omega
    subst oP;rw [aaM,cell_of_row w b j cur elem (0,0) g2];exact fT j v hj) (by omega) (by omega) (growslice_fits (by omega) (by rw [f3]; exact hb))
   exact fresh (xs:=vs) (old:=cap) b6 (fun b c=>⟨by omega,fun e=>by omega⟩) g1 g7 g8 TE bE
theorem mP (h:bl E R w β s a) {t u:TypeId} {id j:Nat} {es:List AV} {y:AV} {ys:List AV} {cx cy:Value} {us:List Value}
  (fM:∀ {c:Value} {w':World},(aac #[t,u] o.type #[cx,cy]).run E.P w=.ok c w'→(execOp a.eval o).run E.P w=.ok (.value c) w')
  {elem esz eb:Nat} {z:AV} (HH:1≤eb) (hz:z.cells.length=esz) (su:z.aY=true)
  {ie:TypeInfo} (f2:ie.size=esz) (f3:ie.bytes=eb) (f6:gf ie=some z)
  (h0:Rel R w (.list (.bB id j) esz es) cx) (hA:∀ zc:Value,ie.zero=some zc→Apd E.P w t u o.type elem ie zc cy (y :: ys).length us)
  (y0:jt esz (y :: ys)) (y1:aK R w (aq (y :: ys)) us) (y2:∀ v∈us,v.oneCell'=true) (y3:us.length=(y :: ys).length * esz)
  {fs:List Nat} (iE:nth s.G id=some (.bB fs esz elem)) (vi:nth fs j=some es.length) (hb:(es.length+(y :: ys).length) * eb≤140737488355328) :
  cm E R w β s a o ((s.cD (aF s.G id (.bB (aF fs j (es.length+(y :: ys).length)) esz elem))).put o.dst (.v (.list (.bB id j) esz (es++(y :: ys))))):=by
 obtain ⟨zc,tR,Fa⟩:=dj f6;have hA:=hA zc tR;obtain ⟨d1,d2⟩:=Rel.cells (Fa R w) su;have ql:zc.cells.size=esz:=by rw [← hz,d1.length]; simp
 have pn:0 < (y :: ys).length:=by simp
 have hm:es.length+(y :: ys).length≤140737488355328:=abQ (abq _ HH) hb;obtain ⟨x0,xs,x1,x2,x3,x4⟩:=hY (esz:=esz) h0 (.inr rfl);obtain ⟨ro,b6⟩:∃ ro,nth R.obj id=some ro:=by
  cases h0 with
  |nJ q _=>exact ⟨_,q⟩
  |list _ _ _ hk=>obtain ⟨ro,q,_⟩:=hk; exact ⟨ro,q⟩
 have cR:=h.g.obj id _ _ iE b6;cases ro with
 |none=>exact cR.elim
 |bO=>exact cR.elim
 |ca _=>exact cR.elim
 |tok _ _ _=>exact cR.elim
 |bB ts=>
 have cR:xo R w esz elem fs ts:=cR;have hjl:j < ts.length:=by rw [cR.1]; exact b7 vi
 obtain ⟨tr,ht⟩:∃ tr,nth ts j=some tr:=⟨ts[j],by rw [bg]; exact aaR hjl⟩;have oG:=cR.2.2 j _ _ vi ht;have Dn:∀ i f b c,nth ts i=some (.tok f b c)→b < w.heap.size:=fun i f b c hi=>h.g.b9 ⟨id,_,b6,i,f,c,hi⟩
 -- where a new block has been made
 have fresh:∀ {old:Nat},(∀ b c,mf tr (.tok (es.length+(y :: ys).length) b c)) →
   (aac #[t,u] o.type #[cx,cy]).run E.P w=.ok (.slice (some ⟨w.heap.size,0,none⟩) (es.length+(y :: ys).length) (grownCap w (es.length+(y :: ys).length) old elem)) (w.drew.alloc (.cells (xs.toArray++us.toArray++aab zc.cells (grownCap w (es.length+(y :: ys).length) old elem - (es.length+(y :: ys).length))) elem)) →
   cm E R w β s a o ((s.cD (aF s.G id (.bB (aF fs j (es.length+(y :: ys).length)) esz elem))).put o.dst (.v (.list (.bB id j) esz (es++(y :: ys))))):=by
  intro old hle bE;have mz:=grownCap_ge w (es.length+(y :: ys).length) old elem;have YW:=grownCap_le_maxLen w (es.length+(y :: ys).length) old elem (by unfold maxLen; omega);have TH:(xs.toArray++us.toArray++aab zc.cells (grownCap w (es.length+(y :: ys).length) old elem - (es.length+(y :: ys).length))).size=grownCap w (es.length+(y :: ys).length) old elem * esz:=by
   simp only [abP,aa6,size_zeroCells,ql,x3,y3,← aaC];congr 1;omega
  generalize iW:xs.toArray++us.toArray++aab zc.cells (grownCap w (es.length+(y :: ys).length) old elem - (es.length+(y :: ys).length))=cur at bE TH;have o1:=One.drew w (.cells cur elem);obtain ⟨r1,r2⟩:=h.UX o1 (n:=(es.length+(y :: ys).length) * esz) (r1:=.bB (aF ts j (.tok (es.length+(y :: ys).length) w.heap.size (grownCap w (es.length+(y :: ys).length) old elem)))) (go:=.bB (aF fs j (es.length+(y :: ys).length)) esz elem) iE b6
   (uc.set ht (hle _ _)) (fun b hb=>HD hb) (xo.set cR ⟨rfl,cur,o1.new,mz,YW,TH,fun o' oP hi=>by
    rcases hi with hi|⟨_,hi⟩
    ·have:=h.g.wf _ _ hi;omega
    ·omega⟩ (fun i f c hi=>absurd (Dn i f _ c hi) (Nat.lt_irrefl _)) (fun i f b c _ hi=>⟨o1.old b (Dn i f b c hi),fun o' oP=>by
     rcases oP with oP|⟨oP,_⟩
     ·exact oP
     ·have:=Dn i f b c hi;omega⟩))
  have e:=r2.ext;refine ⟨_,_,_,_,β,fM bE,.inl rfl,r1.put o.dst ?_,by rw [a6]; exact r2⟩;refine Rel.list (sO (vs:=xs++us) (lI x0 y0) (by rw [cX]; exact (x1.mono e).append (y1.mono e)) (jd x2 y2) (fun j v hj=>?_) (fun j hj=>.inr ⟨rfl,by rw [aaH,x3,y3,← aaC] at hj; exact hj⟩)) (by simp) mz ⟨_,aN b6,_,aN ht,aaB _,fun _=>⟨rfl,rfl,rfl⟩⟩;rw [cell_of_row _ _ j _ _ _ o1.new,← iW];have bZ:=(aaZ.1 hj).1;rw [← aaY];simp only [abK,aa9];rw [← aa9,aax bZ];exact hj
 rcases x4 with ⟨rfl,rfl,ad,rfl,hd⟩|⟨b,o',cap,rfl,YX,xk,vj,xE⟩
 ·obtain rfl:ad=none:=by
   rcases hd with hd|hd
   ·exact hd
   ·cases hd
  simp only [aa4] at hb oG;have bE:=hA.nil pn (by simp only [aa4] at hm; omega) (by rw [f3]; rw [aaM] at hb; omega);cases tr with
  |bO=>exact fresh (old:=0) (fun b c=>by simp only [mf,abu]; omega) (by simpa using bE)
  |full f'=>
   have oG:f'=0:=oG;subst oG;exact fresh (old:=0) (fun b c=>by simp only [mf,abu]; omega) (by simpa using bE)
  |tok f' g c=>
   obtain ⟨oG,_⟩:=oG;subst oG;exact fresh (old:=0) (fun b c=>by simp only [mf,abu,aa4]; omega) (by simpa using bE)
 ·obtain ⟨mI,YY,wG⟩:=xk;rw [b6] at YY;cases YY;obtain ⟨t',q3,wG⟩:=wG;rw [ht] at q3;cases q3;cases tr with
  |bO=>exact wG.elim
  |full f'=>
   have hf:f'=es.length:=oG;subst hf;have hU:=wG.2 rfl;subst hU;have bE:=hA.grow pn ⟨b,o',none⟩ es.length es.length xs (by rw [x3,f2]) vj (by omega) (by omega) (growslice_fits (by omega) (by rw [f3]; exact hb));exact fresh (fun b c=>by simp only [mf]; omega) bE
  |tok f' g c=>
   obtain ⟨rfl,cur,iW,k1,k3,k4,k5⟩:=oG;obtain ⟨rfl,rfl,rfl⟩:=wG.2 rfl;by_cases iI:es.length+(y :: ys).length≤cap
   ·have hle:(es.length+(y :: ys).length) * esz≤cap * esz:=aa3 _ iI;have bE:=hA.room pn b es.length cap cur iW iI (by rw [f2,y3,← aaC,k4]; exact hle);rw [f2] at bE;generalize K1:(cur.toList.take (es.length * esz)++us++cur.toList.drop (es.length * esz+us.length)).toArray=cur2 at bE;have jm:cur.toList.length=cap * esz:=by rw [show cur.toList.length=cur.size from abN,k4]
    have hll:es.length * esz≤cap * esz:=aa3 _ k1;have I4:cur2.size=cap * esz:=by
     rw [← K1,aa6];simp only [aaH,abS,List.length_drop,y3,jm];rw [aaC] at hle;omega
    have xH:∀ o',R.I b o'→cur2[o']?=cur[o']?:=fun o' hi=>by
     have ho:o' < es.length * esz:=Nat.lt_of_not_le fun hle=>k5 o' hle hi
     rw [← K1,aa9];simp only [abJ];rw [aax (by rw [abS]; omega),aba,if_pos ho,aaY]
    have new:(w.setRow b cur2).heap[b]?=some (.cells cur2 elem (0,0)):=setRow_heap w b cur cur2 elem (0,0) iW;obtain ⟨r0,r1,r2⟩:=h.Pn (cur2:=cur2) (n:=(es.length+(y :: ys).length) * esz) (r1:=.bB (aF ts j (.tok (es.length+(y :: ys).length) b cap))) (go:=.bB (aF fs j (es.length+(y :: ys).length)) esz elem) iE b6 ⟨j,_,_,ht⟩
     (uc.set ht ⟨by omega,fun e=>by omega⟩) (fun b' gL=>(HD gL).elim (fun e=>by rw [e]; exact ⟨j,_,_,ht⟩) (fun x=>x)) iW xH (fun _=>xo.set cR ⟨rfl,cur2,new,iI,k3,I4,fun o' oP hi=>by
      rcases hi with hi|⟨_,hi⟩
      ·exact k5 o' (abQ (aa3 _ (Nat.le_add_right _ _)) oP) hi
      ·omega⟩ (fun i f c hi=>cR.2.1 i j _ _ _ _ _ hi ht) (fun i f b' c cQ hi=>by
       have XX:b'≠b:=fun e=>by subst e; exact cQ (cR.2.1 i j _ _ _ _ _ hi ht)
       refine ⟨setRow_other w b b' cur2 XX,fun o' oP=>?_⟩;rcases oP with oP|⟨oP,_⟩
       ·exact oP
       ·exact absurd oP XX))
    refine ⟨_,_,_,_,β,fM bE,.inl rfl,r1.put o.dst ?_,by rw [a6]; exact r2⟩;have Pp:cur.toList.take (es.length * esz)=xs:=by
     have Dp:xs.length=es.length * esz:=x3;apply List.ext_getElem?;intro j;rw [aba];split
     ·rename_i hj;have OU:j < xs.length:=by omega
      have oJ:=vj j xs[j] (aaR OU);rw [cH,aaM,cell_of_row w b j cur elem (0,0) iW] at oJ;rw [aaY,oJ,aaR OU]
     ·rw [abU (by omega)]
    refine Rel.list (sO (vs:=xs++us) (lI x0 y0) (by rw [cX]; exact (x1.mono r0).append (y1.mono r0)) (jd x2 y2) (fun j v hj=>?_) (fun j hj=>.inr ⟨rfl,by rw [aaH,x3,y3,← aaC] at hj; exact hj⟩)) (by simp) iI ⟨_,aN b6,_,aN ht,aaB _,fun _=>⟨rfl,rfl,rfl⟩⟩;rw [cell_of_row _ _ j _ _ _ new,← K1,Pp];simp only [abJ];rw [aax (aaZ.1 hj).1];exact hj
   ·have bE:=hA.grow pn ⟨b,0,none⟩ es.length cap xs (by rw [x3,f2]) vj (by omega) (by omega) (growslice_fits (by omega) (by rw [f3]; exact hb));exact fresh (fun b c=>⟨by omega,fun e=>by omega⟩) bE
theorem wg (h:bl E R w β s a) {t u:TypeId} {id j:Nat} {es:List AV} {y:AV} {ys:List AV} {cx cy:Value} {us:List Value}
  (fM:∀ {c:Value} {w':World},(aac #[t,u] o.type #[cx,cy]).run E.P w=.ok c w'→(execOp a.eval o).run E.P w=.ok (.value c) w')
  {elem esz eb:Nat} {z:AV} (HH:1≤eb) (hz:z.cells.length=esz) (su:z.aY=true)
  {ie:TypeInfo} (f2:ie.size=esz) (f3:ie.bytes=eb) (f6:gf ie=some z)
  (h0:Rel R w (.list (.bB id j) esz es) cx) (hA:∀ zc:Value,ie.zero=some zc→Apd E.P w t u o.type elem ie zc cy (y :: ys).length us)
  (y0:jt esz (y :: ys)) (y1:aK R w (aq (y :: ys)) us) (y2:∀ v∈us,v.oneCell'=true) (y3:us.length=(y :: ys).length * esz)
  {fs:List Nat} (iE:nth s.G id=some (.bB fs esz elem)) (vi:Pd fs j es.length=true) (hb:(es.length+(y :: ys).length) * eb≤140737488355328) :
  cm E R w β s a o ((s.cD (aF s.G id (.bB (IQ fs j (es.length+(y :: ys).length)) esz elem))).put o.dst (.v (.list (.bB id j) esz (es++(y :: ys))))):=by
 unfold Pd at vi;rw [Bool.or_eq_true,decide_eq_true_eq,aaX] at vi;rcases vi with vi|⟨hj,hl⟩
 ·have cQ:Nat.beq j fs.length=false:=by
   cases hb:Nat.beq j fs.length with
   |false=>rfl
   |true=>
    have:=aaa hb;have:=b7 vi;omega
  unfold IQ;rw [cQ];exact mP h fM HH hz su f2 f3 f6 h0 hA y0 y1 y2 y3 iE vi hb
 ·have xM:IQ fs j (es.length+(y :: ys).length)=fs++[es.length+(y :: ys).length]:=by
   unfold IQ;rw [hj];rfl
  rw [xM];have hj:=aaa hj;have hl:=aaa hl;subst hj;have bZ:=b7 iE;rw [← h.g.len] at bZ;obtain ⟨ro,b6⟩:∃ ro,nth R.obj id=some ro:=⟨R.obj[id],by rw [bg]; exact aaR bZ⟩;obtain ⟨ts,rfl,z1,z2,z3⟩:=h.U3 iE (nfs:=[0]) (nts:=[.bO]) rfl (fun j f t h1 h2=>by
   cases j with
   |zero=>simp only [nth] at h1 h2; cases h1; cases h2; exact rfl
   |succ j=>simp [nth] at h1) (fun j f b c hj=>by
   cases j with
   |zero=>simp only [nth] at hj; cases hj
   |succ j=>simp [nth] at hj) b6
  have key:=mP z2 fM HH hz su f2 f3 f6 (h0.mono z3.ext) hA y0 (y1.mono z3.ext) y2 y3 (fs:=fs++[0]) (aN iE) (by rw [hl]; exact eM _ _) hb;have e1:aF (fs++[0]) fs.length (es.length+(y :: ys).length)=fs++[es.length+(y :: ys).length]:=by
   rw [gn,List.set_append_right _ _ (aaB _),Nat.sub_self];rfl
  have e2:∀ x y:GO,aF (aF s.G id x) id y=aF s.G id y:=fun x y=>by rw [gn,gn,gn,List.set_set]
  rw [e1] at key;refine cm.step rfl z3 ?_;have e3:((s.cD (aF s.G id (.bB (fs++[0]) esz elem))).cD (aF (s.cD (aF s.G id (.bB (fs++[0]) esz elem))).G id (.bB (fs++[es.length+(y :: ys).length]) esz elem)))=s.cD (aF s.G id (.bB (fs++[es.length+(y :: ys).length]) esz elem)):=by
   simp only [St.cD,e2]
  rw [e3] at key;exact key
theorem mQ (h:bl E R w β s a) {t u:TypeId} {x:AV} {ys:List AV} {cx cy:Value} {us:List Value}
  (fM:∀ {c:Value} {w':World},(aac #[t,u] o.type #[cx,cy]).run E.P w=.ok c w'→(execOp a.eval o).run E.P w=.ok (.value c) w')
  {i:TI} {elem esz eb:Nat} {ag:Bool} {z:AV} (hk:i.k=.sl elem esz ag eb (some z)) (HH:1≤eb) (hz:z.cells.length=esz) (su:z.aY=true)
  {ie:TypeInfo} (f1:E.P.info? elem=some ie) (f2:ie.size=esz) (f3:ie.bytes=eb) (f6:gf ie=some z)
  (h0:Rel R w x cx) (hA:∀ zc:Value,ie.zero=some zc→Apd E.P w t u o.type elem ie zc cy ys.length us)
  (y0:jt esz ys) (y1:aK R w (aq ys) us) (y2:∀ v∈us,v.oneCell'=true) (y3:us.length=ys.length * esz)
  {v:AV} {G':List GO} (ha:gi s.G elem esz eb x ys=some (true,v,G')) :
  cm E R w β s a o ((s.cD G').put o.dst (.v v)):=by
 obtain ⟨zc,tR,Fa⟩:=dj f6;have hA':=hA;have hA:=hA zc tR;obtain ⟨d1,d2⟩:=Rel.cells (Fa R w) su;have ql:zc.cells.size=esz:=by rw [← hz,d1.length]; simp
 unfold gi at ha;split at ha
 ·-- nothing is appended
  rename_i k sz es;have YQ:us=[]:=aa5 (by simpa using y3);have hG:G'=s.G∧Rel R w v cx:=by
   split at ha
   ·injection ha with ha; injection ha with _ ha; injection ha with p q;subst p; subst q;exact ⟨rfl,h0⟩
   ·injection ha with ha; injection ha with _ ha; injection ha with p q;subst p; subst q;exact ⟨rfl,h0⟩
  obtain ⟨rfl,hvr⟩:=hG;refine ao (s:=s) h (c:=cx) (fM ?_) hvr;cases h0 with
  |kz=>exact hA.zero rfl _ _ _ (aaB 0)
  |ja=>exact hA.zero rfl _ _ _ (aaB 0)
  |nI=>exact hA.zero rfl _ _ _ (aaB 0)
  |mH=>exact hA.zero rfl _ _ _ (aaB 0)
  |nJ=>exact hA.zero rfl _ _ _ (aaB 0)
  |list hr hlen hU _=>exact hA.zero rfl _ _ _ hU
 ·-- something is appended
  rename_i k sz es y ys hA;have pn:0 < (y :: ys).length:=by simp
  -- what is shown where a new block has been made
  have grown:∀ {n old:Nat} {xs:List Value} {es':List AV},(es'.length=n)→jt esz es'→aK R w (aq es') xs→(∀ v∈xs,v.oneCell'=true)→xs.length=n * esz →
    (n+(y :: ys).length) * eb≤140737488355328→n+(y :: ys).length≤maxLen→∀ (R':ak) (G2:List GO) (id:Nat),
    bl E R' (w.drew.alloc (.cells (xs.toArray++us.toArray++aab zc.cells (grownCap w (n+(y :: ys).length) old elem - (n+(y :: ys).length))) elem)) β (s.cD G2) a →
    Step R w β s.boxes R' (w.drew.alloc (.cells (xs.toArray++us.toArray++aab zc.cells (grownCap w (n+(y :: ys).length) old elem - (n+(y :: ys).length))) elem)) β s.boxes →
    (∀ j,j < (n+(y :: ys).length) * esz→R'.I w.heap.size j)→nth R'.obj id=some (.tok (n+(y :: ys).length) w.heap.size (grownCap w (n+(y :: ys).length) old elem)) →
    (aac #[t,u] o.type #[cx,cy]).run E.P w=.ok (.slice (some ⟨w.heap.size,0,none⟩) (n+(y :: ys).length) (grownCap w (n+(y :: ys).length) old elem)) (w.drew.alloc (.cells (xs.toArray++us.toArray++aab zc.cells (grownCap w (n+(y :: ys).length) old elem - (n+(y :: ys).length))) elem)) →
    cm E R w β s a o ((s.cD G2).put o.dst (.v (.list (.own id) esz (es'++(y :: ys))))):=by
   intro n old xs es' BX U4 YV vW A5 _ _ R' G2 id cR HJ hI hid bE;refine ⟨_,_,_,R',β,fM bE,.inl rfl,cR.put o.dst ?_,by rw [a6]; exact HJ⟩;have e:=HJ.ext;refine Rel.list (sO (vs:=xs++us) (lI U4 y0) (by rw [cX]; exact (YV.mono e).append (y1.mono e)) (jd vW y2) (fun j v hj=>?_) (fun j hj=>hI j (by rw [aaH,A5,y3,← aaC] at hj; exact hj))) (by simp [BX]) (grownCap_ge w _ _ _) ⟨_,hid,aaB _,fun _=>⟨rfl,rfl,rfl⟩⟩;have mO:(w.drew.alloc (.cells (xs.toArray++us.toArray++aab zc.cells (grownCap w (n+(y :: ys).length) old elem - (n+(y :: ys).length))) elem)).heap[w.heap.size]?=some (.cells (xs.toArray++us.toArray++aab zc.cells (grownCap w (n+(y :: ys).length) old elem - (n+(y :: ys).length))) elem (0,0)):=heap_alloc_new w.drew _;rw [cell_of_row _ _ j _ _ _ mO];have bZ:=(aaZ.1 hj).1;rw [← aaY];simp only [abK,aa9];rw [← aa9,aax bZ];exact hj
  have K4:∀ {n old:Nat} {xs:List Value},xs.length=n * esz→n+(y :: ys).length≤maxLen→(xs.toArray++us.toArray++aab zc.cells (grownCap w (n+(y :: ys).length) old elem - (n+(y :: ys).length))).size=grownCap w (n+(y :: ys).length) old elem * esz:=by
   intro n old xs A5 _;have mz:=grownCap_ge w (n+(y :: ys).length) old elem;simp only [abP,aa6,size_zeroCells,ql,A5,y3,← aaC];congr 1;omega
  have fresh:∀ {n old:Nat} {xs:List Value} {es':List AV},(es'.length=n)→jt esz es'→aK R w (aq es') xs→(∀ v∈xs,v.oneCell'=true)→xs.length=n * esz →
    (n+(y :: ys).length) * eb≤140737488355328→n+(y :: ys).length≤maxLen →
    (aac #[t,u] o.type #[cx,cy]).run E.P w=.ok (.slice (some ⟨w.heap.size,0,none⟩) (n+(y :: ys).length) (grownCap w (n+(y :: ys).length) old elem)) (w.drew.alloc (.cells (xs.toArray++us.toArray++aab zc.cells (grownCap w (n+(y :: ys).length) old elem - (n+(y :: ys).length))) elem)) →
    cm E R w β s a o ((s.cD (s.G++[.tok (n+(y :: ys).length) esz elem])).put o.dst (.v (.list (.own s.G.length) esz (es'++(y :: ys))))):=by
   intro n old xs es' BX U4 YV vW A5 hb hm bE;obtain ⟨r1,r2⟩:=h.UU (cur:=xs.toArray++us.toArray++aab zc.cells (grownCap w (n+(y :: ys).length) old elem - (n+(y :: ys).length))) (elem:=elem) (grownCap_ge w (n+(y :: ys).length) old elem) (grownCap_le_maxLen w _ old elem hm) (K4 A5 hm);exact grown BX U4 YV vW A5 hb hm _ _ _ r1 r2 (fun j hj=>.inr ⟨rfl,hj⟩) (by rw [← h.g.len]; exact eM _ _) bE
  have OY:∀ {n:Nat},(n+(y :: ys).length) * eb≤140737488355328→n+(y :: ys).length≤140737488355328:=fun {n} hb=>abQ (abq _ HH) hb
  split at ha
  ·-- nil
   injection ha with ha; injection ha with hc ha; injection ha with p q;subst p; subst q;have hb:=of_decide_eq_true hc;cases h0 with
   |list _ _ _ KN=>exact KN.elim
   |kz=>
    simp only [aa4] at hb;have hm:=OY hb;refine fresh (n:=0) (old:=0) (xs:=[]) (es':=[]) rfl (fun e he=>by simp at he) .nil (by simp) (by simp) hb (by unfold maxLen; omega) ?_;have bE:=hA.nil pn (by omega) (by rw [f3]; rw [aaM] at hb; omega);simpa using bE
  ·-- as long as its capacity
   split at ha
   ·rename_i eY;have eY:=aaa eY;subst eY;injection ha with ha; injection ha with hc ha; injection ha with p q;subst p; subst q;have hb:=of_decide_eq_true hc;have hm:=OY hb;obtain ⟨x0,xs,x1,x2,x3,x4⟩:=hY (esz:=sz) h0 (.inr rfl);rcases x4 with ⟨rfl,rfl,ad,rfl,hd⟩|⟨b,o',cap,rfl,YX,xk,vj,_⟩
    ·rcases hd with rfl|hd
     ·cases h0
     ·cases hd
    ·have hU:cap=es.length:=xk;subst hU;refine fresh (n:=es.length) (old:=es.length) (xs:=xs) (es':=es) rfl x0 x1 x2 x3 hb (by unfold maxLen; omega) ?_;exact hA.grow pn ⟨b,o',none⟩ es.length es.length xs (by rw [x3,f2]) vj (by omega) (by omega) (growslice_fits (by omega) (by rw [f3]; exact hb))
   ·cases ha
  ·-- of a token
   rename_i id;split at ha
   ·rename_i f bR e' iE;split at ha
    ·rename_i cL;simp only [aaX] at cL;obtain ⟨⟨q1,q2⟩,q3⟩:=cL;have q1:=aaa q1;have q2:=aaa q2;have q3:=aaa q3;subst q1; subst q2; subst q3;injection ha with ha; injection ha with hc ha; injection ha with p q;subst p; subst q;simp only [aaX] at hc;have vi:=of_decide_eq_true hc.1;have hb:=of_decide_eq_true hc.2;subst vi;have hm:=OY hb;obtain ⟨x0,xs,x1,x2,x3,x4⟩:=hY (esz:=sz) h0 (.inr rfl);rcases x4 with ⟨rfl,rfl,ad,rfl,hd⟩|⟨b,o',cap,rfl,YX,xk,vj,xE⟩
     ·obtain rfl:ad=none:=by
       rcases hd with hd|hd
       ·exact hd
       ·cases hd
      cases h0 with
      | @mH _ _ ro b6 hon=>
      have cR:=h.g.obj id _ _ iE b6;cases ro with
      |none=>exact cR.elim
      |ca _=>exact cR.elim
      |tok f' g c=>
       obtain ⟨rfl,_⟩:=cR;simp [nH] at hon
      |bB _=>exact cR.elim
      |bO=>
       simp only [aa4] at hb;have bE:=hA.nil pn (by omega) (by rw [f3]; rw [aaM] at hb; omega);have eY:=K4 (n:=0) (old:=0) (xs:=[]) (by simp) (by unfold maxLen; omega);obtain ⟨r1,r2⟩:=h.KX (cur:=[].toArray++us.toArray++aab zc.cells (grownCap w (0+(y :: ys).length) 0 e' - (0+(y :: ys).length))) (elem:=e') (n:=0+(y :: ys).length) (cap:=grownCap w (0+(y :: ys).length) 0 e') iE b6 (fun b c=>by simp only [cF]; omega) (grownCap_ge w _ _ _) (grownCap_le_maxLen w _ _ _ (by unfold maxLen; omega)) eY;exact grown (n:=0) (es':=[]) rfl (fun e he=>by simp at he) .nil (by simp) (by simp) hb (by unfold maxLen; omega) _ _ _ r1 r2 (fun j hj=>.inr ⟨rfl,hj⟩) (aN b6) (by simpa using bE)
     ·obtain ⟨ro,b6,wG⟩:=xk;have cR:=h.g.obj id _ _ iE b6;cases ro with
      |none=>exact cR.elim
      |bO=>exact wG.elim
      |ca _=>exact cR.elim
      |bB _=>exact cR.elim
      |tok f' g c=>
       obtain ⟨rfl,cur,iW,k1,k3,k4,k5⟩:=cR;obtain ⟨rfl,rfl,rfl⟩:=wG.2 rfl;by_cases iI:es.length+(y :: ys).length≤cap
       ·have hle:(es.length+(y :: ys).length) * sz≤cap * sz:=aa3 _ iI;have bE:=hA.room pn b es.length cap cur iW iI (by rw [f2,y3,← aaC,k4]; exact hle);rw [f2] at bE;obtain ⟨r0,r1,r2⟩:=h.Pl (news:=us) (n:=es.length+(y :: ys).length) iE b6 (by omega) iI iW k4 k3 (by rw [y3,← aaC]);refine ⟨_,_,_,_,β,fM bE,.inl rfl,r1.put o.dst ?_,by rw [a6]; exact r2⟩;have mO:=setRow_heap w b cur (cur.toList.take (es.length * sz)++us++cur.toList.drop (es.length * sz+us.length)).toArray e' (0,0) iW;have Pp:cur.toList.take (es.length * sz)=xs:=by
         have Dp:xs.length=es.length * sz:=x3;apply List.ext_getElem?;intro j;rw [aba];split
         ·rename_i hj;have OU:j < xs.length:=by omega
          have oJ:=vj j xs[j] (aaR OU);rw [cH,aaM,cell_of_row w b j cur e' (0,0) iW] at oJ;rw [aaY,oJ,aaR OU]
         ·rw [abU (by omega)]
        refine Rel.list (sO (vs:=xs++us) (lI x0 y0) (by rw [cX]; exact (x1.mono r0).append (y1.mono r0)) (jd x2 y2) (fun j v hj=>?_) (fun j hj=>.inr ⟨rfl,by rw [aaH,x3,y3,← aaC] at hj; exact hj⟩)) (by simp) iI ⟨_,aN b6,aaB _,fun _=>⟨rfl,rfl,rfl⟩⟩;rw [cell_of_row _ _ j _ _ _ mO,Pp];simp only [abJ];rw [aax (aaZ.1 hj).1];exact hj
       ·have bE:=hA.grow pn ⟨b,0,none⟩ es.length cap xs (by rw [x3,f2]) vj (by omega) (by omega) (growslice_fits (by omega) (by rw [f3]; exact hb));obtain ⟨r1,r2⟩:=h.KX (cur:=xs.toArray++us.toArray++aab zc.cells (grownCap w (es.length+(y :: ys).length) cap e' - (es.length+(y :: ys).length))) (elem:=e') (n:=es.length+(y :: ys).length) (cap:=grownCap w (es.length+(y :: ys).length) cap e') iE b6 (fun b c=>⟨by omega,fun e=>by omega⟩) (grownCap_ge w _ _ _) (grownCap_le_maxLen w _ _ _ (by unfold maxLen; omega)) (K4 x3 (by unfold maxLen; omega));exact grown rfl x0 x1 x2 x3 hb (by unfold maxLen; omega) _ _ _ r1 r2 (fun j hj=>.inr ⟨rfl,hj⟩) (aN b6) bE
    ·cases ha
   ·cases ha
  ·-- of a member of a family
   rename_i id j;split at ha
   ·rename_i fs bR e' iE;split at ha
    ·rename_i cL;simp only [aaX] at cL;obtain ⟨⟨q1,q2⟩,q3⟩:=cL;have q1:=aaa q1;have q2:=aaa q2;have q3:=aaa q3;subst q1; subst q2; subst q3;injection ha with ha; injection ha with hc ha; injection ha with p q;subst p; subst q;simp only [aaX,decide_eq_true_eq] at hc;exact wg h fM HH hz su f2 f3 f6 h0 (fun zc' U5=>hA' zc' U5) y0 y1 y2 y3 iE hc.1 hc.2
    ·cases ha
   ·cases ha
  ·cases ha
 ·-- a slice that grows, and nothing
  injection ha with ha; injection ha with _ ha; injection ha with p q;subst p; subst q;refine ao (s:=s) h (c:=cx) (fM ?_) h0;cases h0 with
  |iV=>exact hA.zero rfl _ _ _ (aaB 0)
  |eu _ _ hU=>exact hA.zero rfl _ _ _ hU
 ·-- a slice that grows
  rename_i id f' off sz len y ys hA;split at ha
  ·rename_i es bR e' iE;split at ha
   ·rename_i cL;simp only [aaX] at cL;obtain ⟨⟨q1,q2⟩,q3⟩:=cL;have q1:=aaa q1;have q2:=aaa q2;have q3:=aaa q3;subst q1; subst q2; subst q3;injection ha with ha; injection ha with hc ha; injection ha with p q;subst p; subst q;simp only [aaX,decide_eq_true_eq] at hc;exact we h fM HH hz su f2 f3 f6 h0 (fun zc' U5=>hA' zc' U5) y0.g y1 y2 y3 iE hc.1.1.1 hc.1.1.2 hc.1.2 hc.2
   ·cases ha
  ·cases ha
 ·cases ha
theorem Dq (h:bl E R w β s a) {args:Array Operand} {t:TypeId} (ho:o.op=.call { callee:=.builtin .append,args:=args,argTypes:=#[t,t] }) {x:AV} {k2:LK} {qS:Nat} {ys:List AV}
  (hl:nE E s.ae args.toList=some [x,.list k2 qS ys]) {i:TI} (hi:E.ti t=some i) {elem esz eb:Nat} {ag:Bool} {z:AV} (hk:i.k=.sl elem esz ag eb (some z)) (I4:ys=[]∨qS=esz) (ah2:1≤esz) (HH:1≤eb) (hz:z.cells.length=esz) (su:z.aY=true)
  {v:AV} {G':List GO} (ha:gi s.G elem esz eb x ys=some (true,v,G')) :
  cm E R w β s a o ((s.cD G').put o.dst (.v v)):=by
 have hr:=gT h hl;generalize hv:args.toList.map a.eval=vs at hr;have hx:=fe (E:=E) (w:=w) ho vs hv;cases hr with
 | @cons _ cx _ _ h0 h1=>
 cases h1 with
 | @cons _ cy _ _ h1 h2=>
 cases h2;obtain ⟨hJ,u,e1,e2,e3,e4,e5,e6⟩:=cu E hi;have De:=hk;rw [hk] at e5;obtain ⟨ie,ue,rfl,f1,f2,f3,f4,f5,f6⟩:=ee e5;have vk:(⟨[cx,cy]⟩:Array Value)=#[cx,cy]:=rfl;obtain ⟨y0,us,y1,y2,y3,y4⟩:=hY (esz:=esz) h1 I4;refine mQ h (cx:=cx) (cy:=cy) (t:=t) (u:=t) (fun hh=>?_) De HH hz su f1 f2 f3 f6 h0 (fun zc tR=>?_) y0 y1 y2 y3 ha
 ·rw [hx];simp only [builtin,vk,Sem.run_bind,hh,abX,Sem.run_pure]
 ·rcases y4 with ⟨rfl,rfl,ad,rfl,_⟩|⟨by',oy,U6,rfl,ah3,_,K6,yE⟩
  ·refine ⟨fun _ base len cap E9=>?_,fun hh=>absurd hh (by simp),fun hh=>absurd hh (by simp),fun hh=>absurd hh (by simp)⟩;cases ad <;> simp [aac,run_underlying e2,run_sizeOf w f1,abV,abO,E9,storeCells,loadCells,loadCellsFrom] <;>
    cases base <;> simp [storeCells]
  ·refine ⟨fun hn base len cap E9=>?_,fun hh U7 U8=>run_append_nil (P:=E.P) w t o.type elem ie zc e2 f1 tR _ _ U6 us (by rw [y3,f2]) K6 hh U7 U8,fun _ b sLen pj FL FM TJ hg U7 U8=>run_append_grow (P:=E.P) w t o.type elem ie zc e2 f1 tR b sLen pj FL FM TJ _ _ U6 us (by rw [y3,f2]) K6 hg U7 U8,fun _ g sLen pj cur hg iI wh=>run_append_room (P:=E.P) w t o.type elem ie e2 f1 g sLen pj cur hg _ _ U6 us (by rw [y3,f2]) K6 y2 iI wh⟩;rw [hn];simp [aac,run_underlying e2,run_sizeOf w f1,abV,abO,E9,storeCells,loadCells,loadCellsFrom];cases base <;> simp [storeCells]
theorem xN:∀ (bs:List UInt8),aK R w (aq (bs.map jq)) (abT ⟨⟨bs⟩⟩)
 |[]=>.nil
 |b :: bs=>.cons (Rel.int .u8 b.toNat) (xN bs)
theorem wi (h:bl E R w β s a) {args:Array Operand} {t u:TypeId} (ho:o.op=.call { callee:=.builtin .append,args:=args,argTypes:=#[t,u] }) {x:AV} {bs:List UInt8}
  (hl:nE E s.ae args.toList=some [x,.str bs]) {i j:TI} (hi:E.ti t=some i) (hj:E.ti u=some j) {elem eb:Nat} {ag:Bool} {z:AV} (hk:i.k=.sl elem 1 ag eb (some z)) (YZ:j.k=.str) (HH:1≤eb) (hz:z.cells.length=1) (su:z.aY=true)
  {v:AV} {G':List GO} (ha:gi s.G elem 1 eb x (bs.map jq)=some (true,v,G')) :
  cm E R w β s a o ((s.cD G').put o.dst (.v v)):=by
 have hr:=gT h hl;generalize hv:args.toList.map a.eval=vs at hr;have hx:=fe (E:=E) (w:=w) ho vs hv;cases hr with
 | @cons _ cx _ _ h0 h1=>
 cases h1 with
 | @cons _ cy _ _ h1 h2=>
 cases h2;obtain ⟨hJ,ud,e1,e2,e3,e4,e5,e6⟩:=cu E hi;obtain ⟨Y0,ud',g1,g2,g3,g4,g5,g6⟩:=cu E hj;rw [YZ] at g5;have:=kA g5;subst this;have De:=hk;rw [hk] at e5;obtain ⟨ie,ue,rfl,f1,f2,f3,f4,f5,f6⟩:=ee e5;cases h1;have eY:(⟨⟨bs⟩⟩:ByteArray).size=bs.length:=rfl;have hlen:(bs.map jq).length=bs.length:=List.length_map _;have vk:(⟨[cx,.string ⟨⟨bs⟩⟩]⟩:Array Value)=#[cx,.string ⟨⟨bs⟩⟩]:=rfl;have jm:(abT ⟨⟨bs⟩⟩).length=bs.length:=Lib.strCells_length _;refine mQ h (cx:=cx) (cy:=.string ⟨⟨bs⟩⟩) (us:=abT ⟨⟨bs⟩⟩) (t:=t) (u:=u) (fun hh=>?_) De HH hz su f1 f2 f3 f6 h0 (fun zc tR=>?_) ?_ (xN bs) (Lib.strCells_oneCell _) (by rw [jm,hlen,Nat.mul_one]) ha
 ·rw [hx];simp only [builtin,vk,Sem.run_bind,hh,abX,Sem.run_pure]
 ·rw [hlen];refine ⟨fun hn base len cap E9=>?_,fun hh U7 U8=>?_,fun _ b sLen pj FL FM TJ hg U7 U8=>Lib.run_append_grow_string (P:=E.P) w t u o.type elem ie zc e2 g2 f1 tR b sLen pj FL FM TJ ⟨⟨bs⟩⟩ hg U7 U8,fun _ g sLen pj cur hg iI wh=>?_⟩
  ·have hb:bs=[]:=aa5 hn;subst hb;have hz0:(⟨⟨[]⟩⟩:ByteArray).size=0:=rfl;simp [hz0,aac,run_underlying e2,run_underlying g2,run_sizeOf w f1,abV,abO,E9,storeCells];cases base <;> simp [storeCells]
  ·rw [run_append_nil_string (P:=E.P) w t u o.type elem ie zc e2 g2 f1 tR ⟨⟨bs⟩⟩ hh U7 U8];simp [abT,eY]
  ·have:=Lib.run_append_room_string (P:=E.P) w t u o.type elem ie e2 g2 f1 f2 g sLen pj cur hg ⟨⟨bs⟩⟩ iI (by rw [f2,Nat.mul_one,jm] at wh; exact wh);rw [this,f2,Nat.mul_one,jm];rfl
 ·intro e he;obtain ⟨b,_,rfl⟩:=List.mem_map.1 he;exact ⟨rfl,rfl,rfl⟩
end ops
end Go.Am
