/- The abstract machine: what it does is what the model does: copy; and one theorem for every operation. -/
import Derived.Test.YtldcljfjjoidhaaGreatDoorAmKE
import Derived.RangeFuncCalls
import Derived.RangeFuncRecord
import Derived.RangeFuncIn
set_option linter.all false
open Array renaming getD_eq_getD_getElem?→aby, mapM_eq_mapM_toList→abD, length_toList→ab2
open Bool renaming and_eq_true→aaf, or_eq_true→abS
open Go.Builtin renaming firstCells→aao, copy_→aa1, clear_→aa2, lenOf→ab1, zeroCells→acS
open Go.Deferred renaming ofValue→acX
open Go.Fence renaming wide→aah
open Go.Instr renaming takeDeferred→acz
open Go.Oper renaming semAt_eq→aaF
open Go.Region renaming wanted→aae
open Go.Result renaming andThen_ok→aag
open Go.Sem renaming run_bind→aai, run_pure→aaZ
open Go.Value renaming int→ace
open List renaming replicate→aap, length_take→aa5, take_append_drop→aa6, mem_of_mem_take→aa7, getElem?_take→abx, length_map→abU, take_zero→abV, length_replicate→abW, getElem?_eq_none→abX, mem_map→acw
open Nat renaming eq_of_beq_eq_true→aab, min→aac, le_of_ble_eq_true→aad, mul_le_mul_right→aa0, le_refl→aa3, min_eq_left→aa8, ble→abI, add_zero→abN, min_le_left→abT
open Option.some renaming inj→ac0
open Prod.mk renaming injEq→aa4
namespace Go.Am
open Go
section ops
variable {E:Env} {R:ak} {w:World} {β:Nat→Nat} {s:St} {a:Act} {o:Oper}
theorem bt.setRow (h:bt E R w β s a) {id b:Nat} {cs cs':List AV} {vs us:List Value} {el:TypeId} (hk:nth s.G id=some (.row cs el)) (hb:nth R.obj id=some (.ck b)) (hw:w.heap[b]?=some (.cells ⟨vs⟩ el (0,0)))
  (hr:aN R w cs' us) (h1:∀ v∈us,v.oneCell'=true):bt E R (w.setRow b ⟨us⟩) β (s.cH (aI s.G id (.row cs' el))) a∧Step R w β s.boxes R (w.setRow b ⟨us⟩) β s.boxes:=by
 obtain ⟨vs',b1,b2,b3,b4⟩:=h.g.obj id _ _ hk hb;have hex:=jd (R:=R) (w:=w) b4 ⟨us⟩;refine ⟨⟨⟨by simp [St.cH,h.g.len],fun jP go ro hg ms=>?_,h.g.inj,fun b' o' um=>by have:=h.g.wf b' o' um; simp; omega,fun g cs' hg=>(h.g.cr g cs' hg).mono hex,by first | exact h.g.lo | exact Nat.le_succ_of_le h.g.lo⟩,?_,h.t.mono hex,h.n,h.d⟩,?_⟩
 ·rcases du hg with ⟨rfl,rfl,_⟩|⟨cS,rV⟩
  ·rw [hb] at ms;cases ms;exact ⟨_,setRow_heap w _ _ _ _ (0,0) hw,hr.mono hex,h1,b4⟩
  ·refine (h.g.obj jP go ro rV ms).mono hex (fun b' gJ=>setRow_other w _ b' _ (fun e=>cS ?_)) (fun _ _ _ hi=>hi);subst e;exact h.g.inj id jP _ _ b' hb ms rfl gJ
 ·exact h.b.aY hex (fun k cs' iJ=>setRow_other w _ _ _ (h.FK hb iJ)) (fun _ _ _ _ hi=>hi) (fun _ _ _ hl=>hl)
 ·have B5:Own R β s.boxes b:=.inl ⟨id,_,hb,rfl⟩;exact ⟨hex,rfl,rfl,rfl,by simp,fun b' _ hn=>setRow_other w _ b' _ (fun e=>hn (e ▸ B5)),fun _ _ hb=>hb,fun b o hi _ _=>hi⟩
theorem te {P:Program} {w:World} {t ty elem:TypeId} {tl:List TypeId} {ie:TypeInfo} {esz n sLen b off len cap:Nat} {src:Value} {vs us:List Value} {el:TypeId} (e2:P.underlying t=some (.slice elem)) (f1:P.info? elem=some ie) (f2:ie.size=esz)
  (hw:w.heap[b]?=some (.cells ⟨vs⟩ el (0,0))) (hs:(ab1 src).run P w=.ok sLen w) (hn:n=aac sLen len) (hf:(aao esz n src).run P w=.ok ⟨us⟩ w) (hl:off+us.length≤vs.length) (h1:∀ v∈us,v.oneCell'=true) :
  (aa1 ⟨t :: tl⟩ ty #[.slice (some ⟨b,off,none⟩) len cap,src]).run P w=.ok (.int .i64 n) (w.setRow b ⟨vs.take off++us++vs.drop (off+us.length)⟩):=by
 have jz:=run_storeCells_at (P:=P) b off el us 0 ⟨vs⟩ w hw (by simpa using hl) h1;simp only [abN] at jz;subst hn;simp [aa1,run_underlying e2,run_sizeOf w f1,f2,hs,hf,jz,goInt]
theorem Ju (h:bt E R w β s a) {args:Array Operand} {t:TypeId} {tl:List TypeId} (ho:o.op=.call { callee:=.builtin .copy,args:=args,argTypes:=⟨t :: tl⟩ }) {d x:AV}
  (hl:nL E s.ae args.toList=some [d,x]) {i:TI} (hi:E.ti t=some i) {elem esz eb:Nat} {ag:Bool} {z:Option AV} (hk:i.k=.sl elem esz ag eb z) {n:Nat} {G':List GO} (hc:sQ s esz d x=some (n,G')) :
  cu E R w β s a o ((s.cH G').put o.dst (.v (.int .i64 n))):=by
 have hr:=gV h hl;generalize hv:args.toList.map a.eval=vs at hr;have hx:=fe (E:=E) (w:=w) ho vs hv;cases hr with
 | @cons _ cd _ _ h0 h1=>
 cases h1 with
 | @cons _ cx _ _ h1 h2=>
 cases h2;obtain ⟨ia,ud,e1,e2,e3,e4,e5,e6⟩:=cD E hi;rw [hk] at e5;obtain ⟨ie,ue,rfl,f1,f2,f3,f4,f5,f6⟩:=eu e5;have fK:∀ {c:Value} {w':World},(aa1 ⟨t :: tl⟩ o.type #[cd,cx]).run E.P w=.ok c w'→(execOp a.eval o).run E.P w=.ok (.value c) w':=fun hh=>by
  rw [hx];simp only [builtin,aai,hh,aag,aaZ]
 unfold sQ at hc;split at hc
 ·rename_i id off sz len cap;cases h0 with
  | @j7 _ _ _ _ _ b hb Fv=>
  split at hc
  ·rename_i cs hg;split at hc
   ·rename_i e7;have e7:=aab e7;subst e7;obtain ⟨vs,b1,b2,b3,b4⟩:=h.g.obj id _ _ hg hb;split at hc
    ·rename_i k bV es;split at hc
     ·rename_i Jo;have Lv:es=[]∨bV=sz:=by
       simp only [abS] at Jo;rcases Jo with hs|hs
       ·exact .inr (aab hs)
       ·exact .inl (by simpa using hs)
      dsimp only at hc;split at hc
      ·rename_i hle;have hle:=aad hle;injection hc with hc; injection hc with p q;subst p; subst q;obtain ⟨x0,xs,x1,x2,x3,x4⟩:=ic (esz:=sz) h1 Lv;have Fx:jv sz (es.take (aac es.length len)):=fun e he=>x0 e (aa7 he)
       have hnl:(aq (es.take (aac es.length len))).length=aac es.length len * sz:=by
        rw [dO Fx,aa5,aa8 (abT _ _)]
       have VK:aq es=aq (es.take (aac es.length len))++aq (es.drop (aac es.length len)):=by rw [← c8,aa6]
       have eD:aN R w (aq (es.take (aac es.length len))) (xs.take (aac es.length len * sz)):=by
        have:=x1.take (aac es.length len * sz);rw [VK,← hnl,List.take_left,hnl] at this;exact this
       have A9:(xs.take (aac es.length len * sz)).length=aac es.length len * sz:=by rw [← eD.length,hnl]
       have vE:∀ v∈xs.take (aac es.length len * sz),v.oneCell'=true:=fun v hv=>x2 v (aa7 hv)
       have vw:(ab1 cx).run E.P w=.ok es.length w∧(aao sz (aac es.length len) cx).run E.P w=.ok ⟨xs.take (aac es.length len * sz)⟩ w:=by
        rcases x4 with ⟨rfl,rfl,ad,rfl,_⟩|⟨b',o',Jv,rfl,_,_,fR,_⟩
        ·exact ⟨rfl,by cases ad <;> simp [aao,loadCells,loadCellsFrom]⟩
        ·refine ⟨rfl,?_⟩;exact run_firstCells_some (P:=E.P) w sz _ ⟨b',o',none⟩ es.length Jv _ A9 (fun j v hv=>fR j v (by rw [abx] at hv; split at hv <;> first | exact hv | cases hv))
       have bM:=te (P:=E.P) (tl:=tl) (ty:=o.type) (off:=off) (cap:=cap) e2 f1 f2 b1 vw.1 rfl vw.2 (by rw [A9,← hnl,← b2.length]; exact hle) vE;obtain ⟨r1,r2⟩:=h.setRow hg hb b1 (b2.bh eD hle) (je b3 vE);exact ⟨_,_,_,R,β,fK bM,.inl rfl,r1.put o.dst (x:=.v (.int .i64 (aac es.length len))) (Rel.int _ _),by rw [bc]; exact r2⟩
      ·cases hc
     ·cases hc
    ·rename_i bs;split at hc
     ·rename_i cT;rw [aaf] at cT;have Fu:=aab cT.1;subst Fu;have hle:=aad cT.2;injection hc with hc; injection hc with p q;subst p; subst q;cases h1;have Pl:(bs.take (aac bs.length len)).length=aac bs.length len:=by rw [aa5,aa8 (abT _ _)]
      have Pj:((bs.take (aac bs.length len)).map jt).length=(bs.take (aac bs.length len)).length:=abU _;have eD:aN R w ((bs.take (aac bs.length len)).map jt) ((bs.take (aac bs.length len)).map fun b=>ace .u8 b.toNat):=by
       generalize bs.take (aac bs.length len)=l
       induction l with
       |nil=>exact .nil
       |cons b l ih=>exact .cons (Rel.int .u8 b.toNat) ih
      have vE:∀ v∈(bs.take (aac bs.length len)).map (fun b:UInt8=>ace .u8 b.toNat),v.oneCell'=true:=fun v hv=>by
       obtain ⟨b,_,rfl⟩:=acw.1 hv;rfl
      have A9:((bs.take (aac bs.length len)).map fun b:UInt8=>ace .u8 b.toNat).length=(bs.take (aac bs.length len)).length:=abU _;have vw:(aao 1 (aac bs.length len) (.string ⟨⟨bs⟩⟩)).run E.P w=.ok ⟨(bs.take (aac bs.length len)).map fun b:UInt8=>ace .u8 b.toNat⟩ w:=by
       simp [aao]
      have bM:=te (P:=E.P) (tl:=tl) (ty:=o.type) (off:=off) (cap:=cap) (src:=.string ⟨⟨bs⟩⟩) (sLen:=bs.length) e2 f1 f2 b1 rfl rfl vw (by rw [A9,← b2.length]; exact hle) vE;obtain ⟨r1,r2⟩:=h.setRow hg hb b1 (b2.bh eD (by rw [Pj]; exact hle)) (je b3 vE);exact ⟨_,_,_,R,β,fK bM,.inl rfl,r1.put o.dst (x:=.v (.int .i64 (aac bs.length len))) (Rel.int _ _),by rw [bc]; exact r2⟩
     ·cases hc
    ·rename_i jP fO bV FH Jv;split at hc
     ·rename_i cs' rV;dsimp only at hc;split at hc
      ·rename_i l aeb;split at hc
       ·rename_i cT;simp only [aaf] at cT;have hle:=aad cT.2;injection hc with hc; injection hc with p q;subst p; subst q;cases h1 with
        | @j7 _ _ _ _ _ b' gJ hlc'=>
        obtain ⟨vs',c1,c2,c3,c4⟩:=h.g.obj jP _ _ rV gJ;obtain ⟨s1,s2,s3,s4⟩:=qE aeb c2 c3;have A9:=s2.length;have vw:=run_firstCells_some (P:=E.P) w sz (aac FH len) ⟨b',fO,none⟩ FH Jv _ (by rw [← A9,s1]) (fun j v hv=>by rw [cM,jy c1]; exact s4 j v hv);have bM:=te (P:=E.P) (tl:=tl) (ty:=o.type) (off:=off) (cap:=cap) e2 f1 f2 b1 (src:=.slice (some ⟨b',fO,none⟩) FH Jv) (sLen:=FH) rfl rfl vw (by rw [← A9,← b2.length]; exact hle) s3;obtain ⟨r1,r2⟩:=h.setRow hg hb b1 (b2.bh s2 hle) (je b3 s3);exact ⟨_,_,_,R,β,fK bM,.inl rfl,r1.put o.dst (x:=.v (.int .i64 (aac FH len))) (Rel.int _ _),by rw [bc]; exact r2⟩
       ·cases hc
      ·cases hc
     ·cases hc
    ·cases hc
   ·cases hc
  ·cases hc
 ·-- to a slice that grows
  rename_i id f' off sz len;split at hc
  ·rename_i es bV el k szx xs hg;split at hc
   ·rename_i cT;simp only [aaf,abS] at cT;obtain ⟨⟨⟨⟨⟨q1,q2⟩,q3⟩,q4⟩,q5⟩,q6⟩:=cT;have q1:=aab q1;have q2:=aab q2;have Vz:f'=es.length:=Nat.le_antisymm (aad q4) (aad q5);have q6:=aad q6;subst q1; subst q2;injection hc with hc; injection hc with p q;subst p; subst q;have Lv:xs=[]∨szx=bV:=by
     rcases q3 with hs|hs
     ·exact .inr (aab hs)
     ·exact .inl (by simpa using hs)
    obtain ⟨x0,ws,x1,x2,x3,x4⟩:=ic (esz:=bV) h1 Lv;have Fx:dM bV (xs.take (aac xs.length len)):=A8 _ x0.g;have htl:(xs.take (aac xs.length len)).length=aac xs.length len:=by rw [aa5,aa8 (abT _ _)]
    have eD:aN R w (aq (xs.take (aac xs.length len))) (ws.take (aac xs.length len * bV)):=by
     rw [jB _ x0.g];exact x1.take _
    have A9:(ws.take (aac xs.length len * bV)).length=aac xs.length len * bV:=by rw [← eD.length,dq Fx,htl]
    have vE:∀ v∈ws.take (aac xs.length len * bV),v.oneCell'=true:=fun v hv=>x2 v (aa7 hv)
    have vw:(ab1 cx).run E.P w=.ok xs.length w∧(aao bV (aac xs.length len) cx).run E.P w=.ok ⟨ws.take (aac xs.length len * bV)⟩ w:=by
     rcases x4 with ⟨rfl,rfl,ad,rfl,_⟩|⟨b',o',Jv,rfl,_,_,fR,_⟩
     ·exact ⟨rfl,by cases ad <;> simp [aao,loadCells,loadCellsFrom]⟩
     ·refine ⟨rfl,?_⟩;exact run_firstCells_some (P:=E.P) w bV _ ⟨b',o',none⟩ xs.length Jv _ A9 (fun j v hv=>fR j v (by rw [abx] at hv; split at hv <;> first | exact hv | cases hv))
    by_cases B6:aac xs.length len=0
    ·have Lw:∃ base cap,cd=.slice base len cap:=by
      cases h0 with
      |iY=>exact ⟨_,_,rfl⟩
      |eF=>exact ⟨_,_,rfl⟩
     obtain ⟨base,cap,rfl⟩:=Lw;have PJ:=vw.2;rw [B6] at PJ;simp only [Nat.zero_mul,abV] at PJ;have aec:∀ a:Addr,(storeCells a []).run E.P w=.ok () w:=fun a=>by simp [storeCells]
     have bM:(aa1 ⟨t :: tl⟩ o.type #[.slice base len cap,cx]).run E.P w=.ok (.int .i64 (0:Nat)) w:=by
      cases base with
      |none=>simp [aa1,run_underlying e2,run_sizeOf w f1,f2,vw.1,B6,PJ,goInt]
      |some ad=>simp [aa1,run_underlying e2,run_sizeOf w f1,f2,vw.1,B6,PJ,goInt,aec]
     have hG:s.cH (aI s.G id (.dZ (bh es off (xs.take (aac xs.length len))) bV el))=s:=by
      rw [B6,abV,eT _ _ _ (by simp; omega)];simp only [List.append_nil,List.length_nil,abN,aa6];rw [jw hg];rfl
     rw [hG,B6];exact ao h (fK bM) (Rel.int .i64 _)
    ·cases h0 with
     |iY=>exact absurd (Nat.le_zero.1 (Nat.min_le_right _ _)) B6
     | @eF _ _ _ _ _ cap b o' ro b9 eN ib=>
     obtain ⟨b',c',cur,vs,rfl,g1,g2,g3,g4,g5,g6,g7,g8,g9⟩:=lP h.g hg b9 (fun k=>by subst k; exact eN);obtain ⟨rfl,HY,tY⟩:=eN.2 Vz;have Pj:=Nat.min_le_right xs.length len;have pd:o'=off * bV:=by
      rcases tY with tY|tY
      ·exact tY
      ·exact absurd (by show aac xs.length len=0; omega) B6
     subst pd;have Pg:es.length * bV≤cur.toList.length:=by
      rw [show cur.toList.length=cur.size from ab2,g5];exact aa0 _ g3
     have hle:off * bV+aac xs.length len * bV≤es.length * bV:=by rw [← Nat.add_mul]; exact aa0 _ q6
     have bM:=te (P:=E.P) (tl:=tl) (ty:=o.type) (vs:=cur.toList) (off:=off * bV) (cap:=cap) (len:=len) e2 f1 f2 g2 vw.1 rfl vw.2 (by rw [A9]; omega) vE;obtain ⟨r1,r2⟩:=h.HW (off:=off) hg b9 g2 g1 g3 g5 g7 g8 g9 (by rw [htl]; exact q6) Fx eD vE;exact ⟨_,_,_,R,β,fK bM,.inl rfl,r1.put o.dst (x:=.v (.int .i64 (aac xs.length len))) (Rel.int _ _),by rw [bc]; exact r2⟩
   ·cases hc
  ·cases hc
 ·cases hc
theorem Gf (h:bt E R w β s a) {args:Array Operand} {t:TypeId} (ho:o.op=.call { callee:=.builtin .clear,args:=args,argTypes:=#[t] }) (hd:o.dst=none) {id f' off sz len:Nat}
  (hl:nL E s.ae args.toList=some [.eF id f' off sz len]) {i:TI} (hi:E.ti t=some i) {elem esz eb:Nat} {ag:Bool} {z:AV} (hk:i.k=.sl elem esz ag eb (some z)) {es:List AV} {el:TypeId} (hg:nth s.G id=some (.dZ es sz el))
  (e7:sz=esz) (qD:el=elem) (hz:z.cells.length=esz) (sI:z.a8=true) (tX:z.closed=true) (Vz:f'=es.length) (Uo:off+len≤es.length) :
  cu E R w β s a o (s.cH (aI s.G id (.dZ (bh es off (aap len z)) sz el))):=by
 have hr:=gV h hl;generalize hv:args.toList.map a.eval=vs at hr;have hx:=fe (E:=E) (w:=w) ho vs hv;cases hr with
 | @cons _ cd _ _ h0 h1=>
 cases h1;obtain ⟨ia,ud,e1,e2,e3,e4,e5,e6⟩:=cD E hi;rw [hk] at e5;obtain ⟨ie,ue,rfl,f1,f2,f3,f4,f5,f6⟩:=eu e5;obtain ⟨zc,aed,Fw⟩:=dp f6;have fK:∀ {c:Value} {w':World},(aa2 #[t] o.type #[cd]).run E.P w=.ok c w'→(execOp a.eval o).run E.P w=.ok (.value c) w':=fun hh=>by
  rw [hx];simp only [builtin,aai,hh,aag,aaZ]
 subst e7; subst qD;by_cases B6:len=0
 ·subst B6;have Lw:∃ base cap,cd=.slice base 0 cap:=by
   cases h0 with
   |iY=>exact ⟨_,_,rfl⟩
   |eF=>exact ⟨_,_,rfl⟩
  obtain ⟨base,cap,rfl⟩:=Lw;have bM:(aa2 #[t] o.type #[.slice base 0 cap]).run E.P w=.ok (.tuple #[]) w:=by
   cases base <;> simp [aa2,run_underlying e2]
  have hG:s.cH (aI s.G id (.dZ (bh es off (aap 0 z)) sz el))=s:=by
   rw [List.replicate_zero,eT _ _ _ (by simpa using Uo)];simp only [List.append_nil,List.length_nil,abN,aa6];rw [jw hg];rfl
  rw [hG];have:=ao (s:=s) (sv:=.v (.bq [])) h (fK bM) (Rel.bq (R:=R) (w:=w) .nil);rw [hd] at this;exact this
 ·cases h0 with
  |iY=>exact absurd rfl B6
  | @eF _ _ _ _ _ cap b o' ro b9 eN ib=>
  obtain ⟨b',c',cur,vs,rfl,g1,g2,g3,g4,g5,g6,g7,g8,g9⟩:=lP h.g hg b9 (fun k=>by subst k; exact eN);obtain ⟨rfl,HY,tY⟩:=eN.2 Vz;have pd:o'=off * sz:=by
   rcases tY with tY|tY
   ·exact tY
   ·omega
  subst pd;obtain ⟨z1,z2⟩:=mT (Fw R w) sI len;have hzl:zc.cells.size=sz:=by rw [← hz,(Rel.cells (Fw R w) sI).1.length]; simp
  have xQ:(acS zc.cells len).toList=(aap len zc.cells.toList).flatten:=by
   simpa [acS] using px zc.cells len
  have VA:((aap len zc.cells.toList).flatten).length=len * sz:=by rw [← z1.length,dO (fQ hz sI tX),abW]
  have Pg:es.length * sz≤cur.toList.length:=by
   rw [show cur.toList.length=cur.size from ab2,g5];exact aa0 _ g3
  have hle:off * sz+len * sz≤es.length * sz:=by rw [← Nat.add_mul]; exact aa0 _ Uo
  have jz:=run_storeCells_at (P:=E.P) b (off * sz) el (aap len zc.cells.toList).flatten 0 ⟨cur.toList⟩ w g2 (by rw [VA]; simp only [List.size_toArray]; omega) z2;simp only [abN] at jz;have bM:(aa2 #[t] o.type #[.slice (some ⟨b,off * sz,none⟩) len cap]).run E.P w=.ok (.tuple #[]) (w.setRow b ⟨cur.toList.take (off * sz)++(aap len zc.cells.toList).flatten++cur.toList.drop (off * sz+((aap len zc.cells.toList).flatten).length)⟩):=by
   obtain ⟨m,rfl⟩:∃ m,len=m+1:=⟨len - 1,by omega⟩;simp only [aa2];simp [run_underlying e2,gK w f1 aed,xQ,jz]
  obtain ⟨r1,r2⟩:=h.HW (off:=off) (ns:=aap len z) hg b9 g2 g1 g3 g5 g7 g8 g9 (by rw [abW]; exact Uo) (fQ hz sI tX).g z1 z2;exact ⟨_,.tuple #[],_,R,β,fK bM,.inl rfl,by rw [hd]; exact r1,r2⟩
theorem DO {f:FuncId} {s':St} (h:bt E R w β s a) (hs:an E f s o=some (true,s')):cu E R w β s a o s':=by
 unfold an at hs;split at hs
 ·rename_i x ho;split at hs
  ·rename_i y hy;cases hs;exact kq h x (.inl ho) hy
  ·rename_i k off hy;cases hs;exact kq h x (.inl ho) hy
  ·rename_i hy;cases hs;exact kq h x (.inl ho) hy
 ·rename_i x ho;split at hs
  ·rename_i y hy;cases hs;exact kq h x (.inr ho) hy
  ·rename_i k off hy;cases hs;exact kq h x (.inr ho) hy
  ·rename_i hy;cases hs;exact kq h x (.inr ho) hy
 ·rename_i c x y ho;split at hs
  ·rename_i t p q h1 h2 h3;cases hs;exact Jg h c x y ho h1 h2 h3
  ·cases hs
 ·rename_i t ho;split at hs
  ·rename_i i hi;split at hs
   ·rename_i z hz;split at hs
    ·rename_i hn;exact FN h t ho hi hz hn hs
    ·cases hs
   ·cases hs
  ·cases hs
 ·rename_i t x ho;split at hs
  ·rename_i v hv;split at hs
   ·rename_i hn;exact La h t x ho hv hn hs
   ·cases hs
  ·cases hs
 ·rename_i t parts ho;split at hs
  ·rename_i v hv;cases hs;exact FT h t parts ho hv
  ·cases hs
 ·rename_i t len parts ho;split at hs
  ·rename_i v hv;cases hs;exact wu h t len parts ho hv
  ·cases hs
 ·rename_i t x ho;split at hs
  ·rename_i c v hv;injection hs with hs; injection hs with h1 h2;subst h1; subst h2;exact F0 h t x ho hv
  ·cases hs
 ·rename_i t p x ho;split at hs
  ·rename_i c DA hd jz;injection hs with hs; injection hs with h1 h2;subst h1; subst h2;exact Dz h t p x ho hd jz
  ·cases hs
 ·rename_i op t x y u ho;split at hs
  ·rename_i p q hx hy;split at hs
   ·rename_i c v hv;injection hs with hs; injection hs with h1 h2;subst h1; subst h2;exact FQ h op t u x y ho hx hy hv
   ·rename_i hb;split at hs
    ·rename_i r hr;injection hs with hs; injection hs with h1 h2;subst h2;exact Lc h op t u x y ho hx hy hb hr
    ·cases hs
  ·cases hs
 ·rename_i op t x ho;split at hs
  ·rename_i b hx;cases hs;exact Ld h t x ho hx
  ·rename_i k n hx;cases hs;exact Le h t x ho hx
  ·cases hs
 ·rename_i t u x ho;split at hs
  ·rename_i c v hc;injection hs with hs; injection hs with h1 h2;subst h1; subst h2;exact Ci h t u x ho hc
  ·cases hs
 ·rename_i x ho;split at hs
  ·rename_i id off hx;cases hs;exact rH h x ho hx (.inl ⟨_,_,rfl⟩)
  ·rename_i k off hx;cases hs;exact rH h x ho hx (.inr ⟨_,_,rfl⟩)
  ·cases hs
 ·rename_i g x y ho;split at hs
  ·rename_i p q hp hq;cases hs;exact Ak h g x y ho hp hq
  ·cases hs
 ·rename_i t x j ho;split at hs
  ·rename_i q hq;cases hs;exact xJ h t x j ho hq
  ·cases hs
 ·rename_i t x j ho;split at hs
  ·rename_i v hv;cases hs;exact FO h t x j ho hv
  ·cases hs
 ·rename_i t x ix ho;split at hs
  ·rename_i c q hq;injection hs with hs; injection hs with h1 h2;subst h1; subst h2;exact xK h t x ix ho hq
  ·cases hs
 ·rename_i t x ix ho;split at hs
  ·rename_i c v hv;injection hs with hs; injection hs with h1 h2;subst h1; subst h2;exact FP h t x ix ho hv
  ·cases hs
 ·rename_i t x lo hi mx ho;split at hs
  ·rename_i l h' hl hh;split at hs
   ·rename_i c v hv;injection hs with hs; injection hs with h1 h2;subst h1; subst h2;cases mx with
    |none=>exact FU h t x lo hi ho hl hh hv
    |some m=>
     unfold B2 at hv;split at hv
     ·rename_i hmx;cases hmx
     ·cases hv
   ·cases hs
  ·cases hs
 ·rename_i x j ho;split at hs
  ·rename_i vs hx;split at hs
   ·rename_i v hn;cases hs;exact B8 h x j ho hx hn
   ·cases hs
  ·cases hs
 ·rename_i t x y ho;split at hs
  ·rename_i i k n k' m hi hx hy;split at hs
   ·rename_i elem esz ag eb z hk;split at hs
    ·rename_i cT;simp only [aaf] at cT;split at hs
     ·split at hs
      ·rename_i tX;injection hs with hs; injection hs with h1 h2;subst h2;exact wx h t x y ho hi hx hy hk (aab cT.1.1) (aad cT.1.2) cT.2 tX (of_decide_eq_true h1)
      ·cases hs
     ·injection hs with hs; injection hs with h1 h2;subst h2;exact xR h t x y ho hi hx hy hk (aab cT.1.1) (aad cT.1.2) cT.2 (of_decide_eq_true h1)
    ·cases hs
   ·cases hs
  ·cases hs
 ·rename_i t m k ok ho;split at hs
  ·rename_i v b hv;cases hs;exact DI h t m k ok ho hv
  ·cases hs
 ·rename_i t m k x ho;split at hs
  ·rename_i DA hd hv;cases hs;exact pC h t m k x (.inl ho) hd hv
  ·cases hs
 ·rename_i t m k x ho;split at hs
  ·rename_i DA hd hv;cases hs;exact pC h t m k x (.inr ho) hd hv
  ·cases hs
 ·rename_i x ho;split at hs
  ·rename_i c v hv;injection hs with hs; injection hs with h1 h2;subst h1; subst h2;exact Gc h x ho hv
  ·cases hs
 ·rename_i t m k ho;split at hs
  ·rename_i c v DA hv;injection hs with hs; injection hs with h1 h2;subst h1; subst h2;exact An h t m k ho hv
  ·cases hs
 ·rename_i t m st x ho;split at hs
  ·rename_i c DA hd hv;injection hs with hs; injection hs with h1 h2;subst h1; subst h2;exact wD h t m st x ho hd hv
  ·cases hs
 ·rename_i t x ho;split at hs
  ·rename_i i l hi hx;split at hs
   ·rename_i hk;cases hs;exact F7 h t x ho hi hk hx
   ·cases hs
  ·rename_i i id hi hx;split at hs
   ·rename_i hk hg;cases hs;exact DK h t x ho hi hk hx hg
   ·cases hs
  ·cases hs
 ·rename_i x ho;split at hs
  ·rename_i DA hv;cases hs;exact Jr h x ho hv
  ·cases hs
 ·rename_i t ho;cases hs;exact Cc h t ho
 ·rename_i b args tys ho;split at hs
  ·rename_i r hf;cases hs;exact Gd h hf
  ·split at hs
   ·rename_i l hl;have Jw:tys=⟨tys.toList⟩:=rfl;cases b with
    |len=>
     exact Li h (tys:=tys.toList) (by rw [ho]) hl hs
    |append=>
     unfold bW at hs;split at hs <;> first | (rename_i hb; cases hb; done) | skip
     ·rename_i x k sz ys;split at hs
      ·rename_i t u Gg;split at hs
       ·rename_i i hi;split at hs
        ·rename_i elem esz ag eb z hk;split at hs
         ·rename_i cT;simp only [aaf,abS] at cT;obtain ⟨⟨⟨⟨⟨c1,c2⟩,c3⟩,c4⟩,c5⟩,c6⟩:=cT;split at hs
          ·rename_i c v G' ha;injection hs with hs; injection hs with h1 h2;subst h1; subst h2;have htu:=aab c2;subst htu;have Gh:tys=#[t,t]:=by rw [Jw,Gg]
           rw [Gh] at ho;refine DE h ho hl hi hk ?_ (aad c3) (aad c4) (aab c5) c6 ha;rcases c1 with c1|c1
           ·exact .inr (aab c1)
           ·exact .inl (by simpa using c1)
          ·cases hs
         ·cases hs
        ·cases hs
       ·cases hs
      ·cases hs
     ·rename_i x bs;split at hs
      ·rename_i t u Gg;split at hs
       ·rename_i i j hi hj;split at hs
        ·rename_i elem esz ag eb z hk ZX;split at hs
         ·rename_i cT;simp only [aaf] at cT;obtain ⟨⟨⟨c1,c2⟩,c3⟩,c4⟩:=cT;split at hs
          ·rename_i c v G' ha;injection hs with hs; injection hs with h1 h2;subst h1; subst h2;have c1:=aab c1;subst c1;have Gh:tys=#[t,u]:=by rw [Jw,Gg]
           rw [Gh] at ho;exact wC h ho hl hi hj hk ZX (aad c2) (aab c3) c4 ha
          ·cases hs
         ·cases hs
        ·cases hs
       ·cases hs
      ·cases hs
     ·cases hs
    |copy=>
     unfold bW at hs;split at hs <;> first | (rename_i hb; cases hb; done) | skip
     ·rename_i d x;split at hs
      ·rename_i t tl Gg;split at hs
       ·rename_i i hi;split at hs
        ·rename_i elem esz ag eb z hk;split at hs
         ·rename_i n G' hc;injection hs with hs; injection hs with h1 h2;subst h2;have Gh:tys=⟨t :: tl⟩:=by rw [Jw,Gg]
          rw [Gh] at ho;exact Ju h ho hl hi hk hc
         ·cases hs
        ·cases hs
       ·cases hs
      ·cases hs
     ·cases hs
    |clear=>
     unfold bW at hs;split at hs <;> first | (rename_i hb; cases hb; done) | skip
     ·split at hs
      ·rename_i t id f' off sz len hd Gg;split at hs
       ·rename_i i es bV el hi hg;split at hs
        ·rename_i elem esz ag eb z hk;split at hs
         ·rename_i cT;simp only [aaf] at cT;obtain ⟨⟨⟨⟨⟨c1,c2⟩,c3⟩,c4⟩,c5⟩,c6⟩:=cT;have c1:=aab c1;have c2:=aab c2;have c3:=aab c3;have c4:=aab c4;injection hs with hs; injection hs with h1 h2;subst h2;rw [aaf,decide_eq_true_eq,decide_eq_true_eq] at h1;have Gh:tys=#[t]:=by rw [Jw,Gg]
          rw [Gh] at ho;subst c2;exact Gf h ho hd hl hi hk hg c1 c3 c4 c5 c6 h1.1 h1.2
         ·cases hs
        ·cases hs
       ·cases hs
      ·cases hs
     ·cases hs
    |max=>
     unfold bW at hs;split at hs <;> first | (rename_i hb; cases hb; done) | skip
     ·rename_i x l';split at hs
      ·rename_i v hm;cases hs;exact Lj h ho hl hm
      ·cases hs
     ·cases hs
    |min=>
     unfold bW at hs;split at hs <;> first | (rename_i hb; cases hb; done) | skip
     ·rename_i x l';split at hs
      ·rename_i v hm;cases hs;exact Lk h ho hl hm
      ·cases hs
     ·cases hs
    |_=>
     unfold bW at hs;split at hs <;> first | (rename_i hb; cases hb; done) | (cases hs; done)
   ·cases hs
 ·cases hs
def ak.all (R:ak) (b:Nat):ak:=⟨fun b' o=>R.I b' o∨b'=b,R.obj⟩
theorem qH (R:ak) (w:World) (b:Nat):Ext R w (R.all b) w:=⟨fun _ _ h=>.inl h,fun _ _ _=>rfl,fun _ ro h=>⟨ro,h,cJ.refl ro⟩,gC.refl w⟩
theorem dC.freeze {G:List GO} (h:dC E R w G) {id b:Nat} {ro:RO} (b9:nth R.obj id=some ro) (hb:ro.has b) (Z6:gI (R.all b) w .dead ro):dC E (R.all b) w (aI G id .dead):=by
 have e:=qH R w b;have cm:=h.cj ⟨id,ro,b9,hb⟩;refine ⟨by show R.obj.length=_; rw [iw]; exact h.len,fun jP go mO q1 q2=>?_,h.inj,fun b' o ho=>?_,fun g cs rW=>(h.cr g cs rW).mono e,h.lo⟩
 ·rcases du q1 with ⟨rfl,rfl,_⟩|⟨cS,q1⟩
  ·have:mO=ro:=ac0 (q2.symm.trans b9);subst this;exact Z6
  ·refine (h.obj jP go mO q1 q2).mono e (fun _ _=>rfl) (fun b' o gJ ho=>?_);rcases ho with ho|ho
   ·exact ho
   ·subst ho;exact absurd (h.inj id jP _ _ b' b9 q2 hb gJ) cS
 ·rcases ho with ho|ho
  ·exact h.wf b' o ho
  ·subst ho; exact cm
theorem pD:∀ {l:List AV} {x:AV},aF l=true→x∈l→x.closed=true
 |[],_,_,h=>by simp at h
 |a :: l,x,h,hx=>by
  simp only [aF,aaf] at h;rcases List.mem_cons.1 hx with rfl|hx
  ·exact h.1
  ·exact pD h.2 hx
theorem tf:∀ l r:List AV,lH (l++r)=lH l++lH r
 |[],_=>rfl
 |a :: l,r=>by simp only [List.cons_append,lH,tf l r]
theorem tg:∀ l:List AV,(lH l).length=l.length
 |[]=>rfl
 |a :: l=>by simp only [lH,List.length_cons,tg l]
theorem yh (e:AV):e.hY.cells=lH e.cells:=by
 cases e with
 |list k sz es=>cases k <;> simp only [AV.hY,AV.cells,lH]
 |_=>simp only [AV.hY,AV.cells,lH]
theorem DP (e:AV):e.hY.a8=e.a8:=by
 cases e with
 |list k sz es=>cases k <;> simp only [AV.hY,AV.a8]
 |_=>simp only [AV.hY,AV.a8]
theorem vF:∀ es:List AV,aq (es.map AV.hY)=lH (aq es)
 |[]=>rfl
 |e :: es=>by simp only [List.map_cons,aq,yh,vF es,tf]
theorem PK {wk:Bool} {es:List AV} {vs:List Value} (h:aN R w (aq es) vs):aN R w (aq (AY wk es)) vs:=by
 cases wk with
 |false=>exact h
 |true=>
  show aN R w (aq (es.map AV.hY)) vs;rw [vF];exact h.hY
theorem Gi (wk:Bool) (es:List AV):(AY wk es).length=es.length:=by
 cases wk
 ·rfl
 ·exact abU _
theorem Lx (wk:Bool) (n:Nat) (es:List AV):AY wk (es.take n)=(AY wk es).take n:=by
 cases wk
 ·rfl
 ·exact List.map_take
theorem H5 (wk:Bool):AY wk []=[]:=by cases wk <;> rfl
theorem Ly {wk:Bool} {sz:Nat} {es:List AV} (h:dM sz es) (hc:aF (AY wk es)=true):jv sz (AY wk es):=by
 cases wk with
 |false=>exact fun x hx=>⟨(h x hx).1,(h x hx).2,pD hc hx⟩
 |true=>
  intro x hx;refine ⟨?_,?_,pD hc hx⟩
  ·obtain ⟨y,hy,rfl⟩:=acw.1 hx;rw [yh,tg];exact (h y hy).1
  ·obtain ⟨y,hy,rfl⟩:=acw.1 hx;rw [DP];exact (h y hy).2
theorem nZ {wk:Bool} {G:List GO} (h:dC E R w G) {id f sz len:Nat} {es:List AV} {el:TypeId} (hid:nth G id=some (.dZ es sz el)) (hf:f=es.length) (hl:len≤es.length) (jo:aF (AY wk es)=true) {ro:RO} (b9:nth R.obj id=some ro) :
  ∃ R',dC E R' w (aI G id .dead)∧Ext R w R' w∧R'.obj=R.obj∧(∀ b o,R'.I b o→R.I b o∨ro.has b)∧∀ c,Rel R w (.eF id f 0 sz len) c→Rel R' w (.list .ly sz (AY wk (es.take len))) c:=by
 by_cases hn:ro=.bU
 ·subst hn;have he:es=[]:=h.obj id _ _ hid b9;subst he;refine ⟨R,?_,Ext.refl R w,rfl,fun _ _ hi=>.inl hi,fun c hc=>?_⟩
  ·refine ⟨by rw [iw]; exact h.len,fun jP go mO q1 q2=>?_,h.inj,h.wf,h.cr,h.lo⟩;rcases du q1 with ⟨rfl,rfl,_⟩|⟨cS,q1⟩
   ·have:mO=.bU:=ac0 (q2.symm.trans b9);subst this;trivial
   ·exact h.obj jP go mO q1 q2
  ·rw [List.take_nil,H5];cases hc with
   |iY=>exact .jc
   |eF h1 h2 _=>
    rw [b9] at h1;cases h1;exact h2.elim
 ·obtain ⟨b,c',cur,vs,rfl,g0,g2,g3,g4,g5,g6,g7,g8,g9⟩:=lP h hid b9 hn;have g1:jv sz (AY wk es):=Ly g0 jo;have e:=qH R w b;refine ⟨R.all b,h.freeze b9 rfl (bl g2),e,rfl,fun b' o hi=>?_,fun c hc=>?_⟩
  ·rcases hi with hi|rfl
   ·exact .inl hi
   ·exact .inr rfl
  ·cases hc with
   |iY h1 h2=>
    rw [b9] at h1;cases h1;simp only [nP] at h2;omega
   | @eF _ _ _ _ _ cap b1 o1 _ h1 h2 h3=>
    rw [b9] at h1;cases h1;obtain ⟨rfl,k2,k3⟩:=h2.2 hf;by_cases uv:len=0
    ·subst uv;rw [abV,H5];exact Rel.list .nil rfl h3 trivial
    rw [Lx];refine Rel.list (uq len (mS g1 (dV.make ((PK g7).mono e) g8 (fun j v hj=>?_) (fun j hj=>.inr rfl)))) (by rw [aa5,Gi,aa8 hl]) h3 trivial;have ho:o1=0:=by
     rcases k3 with k3|k3
     ·rw [k3,Nat.zero_mul]
     ·omega
    subst ho;rw [Nat.zero_add,cell_of_row w b1 j cur el (0,0) g2];rw [← g9,abx] at hj;split at hj
    ·rw [← Array.getElem?_toList]; exact hj
    ·cases hj
theorem th {wk:Bool}:∀ {cs cs':List AV} {G G':List GO} {vs:List Value} {R:ak},dC E R w G→aN R w cs vs→mL wk cs G=(true,cs',G') →
  ∃ R',dC E R' w G'∧aN R' w cs' vs∧Ext R w R' w∧R'.obj=R.obj∧∀ b o,R'.I b o→R.I b o∨Live R b
 |[],cs',G,G',vs,R,hg,hr,h=>by
  simp only [mL,aa4,true_and] at h;obtain ⟨rfl,rfl⟩:=h;exact ⟨R,hg,hr,Ext.refl R w,rfl,fun _ _ h=>.inl h⟩
 |x :: l,cs',G,G',vs,R,hg,hr,h=>by
  cases hr with
  |cons h0 hr=>
  unfold mL at h;split at h
  ·rename_i lN;cases lN
  ·rename_i id f sz len l1 lN;obtain ⟨rfl,rfl⟩:=List.cons.inj lN;split at h
   ·rename_i es bV el hid;generalize h2:mL wk l _=q0 at h;obtain ⟨c',q⟩:=q0;obtain ⟨Z7,G2⟩:=q;simp only [aa4,aaf,decide_eq_true_eq] at h;obtain ⟨⟨⟨⟨⟨hf,hlen⟩,e7⟩,jo⟩,rfl⟩,rfl,rfl⟩:=h;have e7:=aab e7;subst e7;obtain ⟨ro,b9⟩:∃ ro,nth R.obj id=some ro:=by
     cases h0 with
     |iY q _=>exact ⟨_,q⟩
     |eF q _ _=>exact ⟨_,q⟩
    obtain ⟨R1,r1,r2,r3,r4,r5⟩:=nZ (wk:=wk) hg hid hf (Nat.le_of_eq hlen) jo b9;have r6:=r5 _ h0;rw [hlen,List.take_length] at r6;obtain ⟨R2,b1,b2,b3,b4,b5⟩:=th r1 (hr.mono r2) h2;refine ⟨R2,b1,.cons (r6.mono b3) b2,r2.trans b3,b4.trans r3,fun b o ho=>?_⟩;rcases b5 b o ho with ho|ho
    ·exact (r4 b o ho).imp_right fun hb=>⟨id,ro,b9,hb⟩
    ·obtain ⟨i,r,q1,q2⟩:=ho;rw [r3] at q1;exact .inr ⟨i,r,q1,q2⟩
   ·generalize h2:mL wk l _=q0 at h;obtain ⟨c',q⟩:=q0;simp only [aa4] at h;cases h.1
  ·rename_i a l1 G1 cS lN;obtain ⟨rfl,rfl⟩:=List.cons.inj lN;generalize h2:mL wk l _=q0 at h;obtain ⟨c',Z7,G2⟩:=q0;simp only [aa4] at h;obtain ⟨rfl,rfl,rfl⟩:=h;obtain ⟨R2,b1,b2,b3,b4,b5⟩:=th hg hr h2;exact ⟨R2,b1,.cons (h0.mono b3) b2,b3,b4,b5⟩
theorem vG {cut wk:Bool} {t:Tmp} {s':St} (h:bt E R w β s a) (hs:qC cut wk s t=some (true,s')):∃ R',bt E R' w β s' a∧Step R w β s.boxes R' w β s'.boxes∧s'.ro=s.ro:=by
 unfold qC at hs;split at hs
 ·rename_i id f off sz len ht;split at hs
  ·rename_i es bV el hid;split at hs
   ·rename_i cT;rw [aaf] at cT;have q1:=aab cT.1;have q2:=aab cT.2;subst q1; subst q2;injection hs with hs; injection hs with h1 h2;rw [aaf,aaf,decide_eq_true_eq] at h1;obtain ⟨⟨Lh,Fv⟩,jo⟩:=h1;have hle:len≤es.length:=by
     cases cut with
     |true=>exact of_decide_eq_true Fv
     |false=>exact Nat.le_of_eq (of_decide_eq_true Fv)
    have KJ:AY wk (bif cut then es.take len else es)=AY wk (es.take len):=by
     congr 1;cases cut with
     |true=>rfl
     |false=>
      have:len=es.length:=of_decide_eq_true Fv;rw [this,List.take_length];rfl
    rw [KJ] at h2;subst h2;obtain ⟨c,k1,k2⟩:=h.t t (by rw [ht]; simp);rw [ht] at k2;obtain ⟨ro,b9⟩:∃ ro,nth R.obj id=some ro:=by
     have Pm:Rel R w (.eF id f 0 sz len) c:=k2;cases Pm with
     |iY q _=>exact ⟨_,q⟩
     |eF q _ _=>exact ⟨_,q⟩
    obtain ⟨R',r1,r2,r3,r4,r5⟩:=nZ h.g hid Lh hle jo b9;have VL:∀ k cs,dA s.boxes k=some cs→¬ ro.has (β k):=fun k cs hk e=>(h.b.box k cs hk).2.2 ⟨id,ro,b9,e⟩
    refine ⟨R',⟨r1,?_,?_,h.n,h.d.mono r2⟩,⟨r2,rfl,rfl,rfl,aa3 _,fun _ _ _=>rfl,fun b hb ho=>?_,fun b o hi hb hn=>?_⟩,rfl⟩
    ·exact h.b.aY r2 (fun _ _ _=>rfl) (fun k cs o hk hi=>(r4 _ o hi).resolve_right (VL k cs hk)) (fun k cs hk hl=>by
      obtain ⟨i,r,l1,l2⟩:=hl;rw [r3] at l1;exact ⟨i,r,l1,l2⟩)
    ·intro i hi;by_cases e:t=i
     ·subst e;rw [aA];exact ⟨c,k1,r5 c k2⟩
     ·rw [aS e] at hi ⊢;obtain ⟨c',l1,l2⟩:=h.t i hi;exact ⟨c',l1,l2.mono r2⟩
    ·rcases ho with ⟨i,r,l1,l2⟩|ho
     ·rw [r3] at l1;exact .inl ⟨i,r,l1,l2⟩
     ·exact .inr ho
    ·rcases r4 b o hi with hi|hi
     ·exact hi
     ·exact absurd (.inl ⟨id,ro,b9,hi⟩) hn
   ·cases hs
  ·cases hs
 ·-- an object's cells never change again
  rename_i id ht;split at hs
  ·rename_i cs el hid;injection hs with hs; injection hs with h1 h2;subst h2;obtain ⟨c,k1,k2⟩:=h.t t (by rw [ht]; simp);rw [ht] at k2;have Pm:Rel R w (.ptr id 0) c:=k2;cases Pm with
   | @ptr _ _ b b9=>
   obtain ⟨vs,b1,b2,b3,b4⟩:=h.g.obj id _ _ hid b9;have r2:=qH R w b;have r1:=h.g.freeze b9 rfl (show gI (R.all b) w .dead (.ck b) from bl b1);have VL:∀ k cs,dA s.boxes k=some cs→β k≠b:=fun k cs hk e=>(h.b.box k cs hk).2.2 ⟨id,_,b9,by rw [e]; rfl⟩
   refine ⟨R.all b,⟨r1,?_,?_,h.n,h.d.mono r2⟩,⟨r2,rfl,rfl,rfl,aa3 _,fun _ _ _=>rfl,fun _ _ ho=>ho,fun b' o hi hb hn=>?_⟩,rfl⟩
   ·exact h.b.aY r2 (fun _ _ _=>rfl) (fun k cs o hk hi=>hi.resolve_right (VL k cs hk)) (fun _ _ _ hl=>hl)
   ·intro i hi;by_cases e:t=i
    ·subst e;rw [aA];refine ⟨_,k1,Rel.ep (dV.make (b2.mono r2) b3 (fun j v hv=>?_) (fun j _=>.inr rfl))⟩;rw [jy b1,Nat.zero_add];exact hv
    ·rw [aS e] at hi ⊢;obtain ⟨c',l1,l2⟩:=h.t i hi;exact ⟨c',l1,l2.mono r2⟩
   ·rcases hi with hi|rfl
    ·exact hi
    ·exact absurd (.inl ⟨id,_,b9,rfl⟩) hn
  ·cases hs
 ·-- the parts of a value
  rename_i cs ht;cases h2:mL wk cs s.G with
  |mk c' q=>
  obtain ⟨cs',G'⟩:=q;rw [h2] at hs;injection hs with hs; injection hs with h3 hs;subst h3;subst hs;obtain ⟨c,k1,k2⟩:=h.t t (by rw [ht]; simp);rw [ht] at k2;have Pm:Rel R w (.agg cs) c:=k2;cases Pm with
  | @agg _ vs k3 k4=>
  obtain ⟨R',r1,r2,r3,r4,r5⟩:=th h.g k3 h2;have live:∀ b,Live R' b→Live R b:=fun b ⟨i,r,q1,q2⟩=>⟨i,r,by rw [← r4]; exact q1,q2⟩
  refine ⟨R',⟨r1,?_,?_,h.n,h.d.mono r3⟩,⟨r3,rfl,rfl,rfl,aa3 _,fun _ _ _=>rfl,fun b hb ho=>?_,fun b o hi hb hn=>?_⟩,rfl⟩
  ·exact h.b.aY r3 (fun _ _ _=>rfl) (fun k cs o hk hi=>(r5 _ o hi).resolve_right (h.b.box k cs hk).2.2) (fun k cs hk hl=>live _ hl)
  ·intro i hi;by_cases e:t=i
   ·subst e;rw [aA];exact ⟨_,k1,Rel.agg r2 k4⟩
   ·rw [aS e] at hi ⊢;obtain ⟨c',l1,l2⟩:=h.t i hi;exact ⟨c',l1,l2.mono r3⟩
  ·rcases ho with ho|ho
   ·exact .inl (live b ho)
   ·exact .inr ho
  ·rcases r5 b o hi with hi|hi
   ·exact hi
   ·exact absurd (.inl hi) hn
 ·cases hs
theorem iy {cut wk:Bool}:∀ {l:List Operand} {R:ak} {s s':St},bt E R w β s a→gT cut wk l s=(true,s')→∃ R',bt E R' w β s' a∧Step R w β s.boxes R' w β s'.boxes∧s'.ro=s.ro
 |[],R,s,s',h,hs=>by
  simp only [gT] at hs;cases hs;exact ⟨R,h,Step.refl _ _ _ _,rfl⟩
 |.tmp t :: l,R,s,s',h,hs=>by
  unfold gT at hs;split at hs
  ·rename_i c s1 h1;cases h2:gT cut wk l s1 with
   |mk c' s2=>
   rw [h2] at hs;simp only [aa4,aaf] at hs;obtain ⟨⟨rfl,rfl⟩,rfl⟩:=hs;obtain ⟨R1,k1,k2,k3⟩:=vG h h1;obtain ⟨R2,l1,l2,l3⟩:=iy k1 h2;exact ⟨R2,l1,k2.trans l2,l3.trans k3⟩
  ·exact iy h hs
 |.const _ :: l,R,s,s',h,hs=>iy (l:=l) h hs
 |.global _ :: l,R,s,s',h,hs=>iy (l:=l) h hs
 |.func _ :: l,R,s,s',h,hs=>iy (l:=l) h hs
theorem Lz {f:FuncId} {s':St} (h:bt E R w β s a) (hs:Jc E f s o=some (true,s')):∃ R',bt E R' w β s' a∧Step R w β s.boxes R' w β s'.boxes∧s'.ro=s.ro:=by
 unfold Jc at hs;split at hs
 ·split at hs
  ·injection hs with hs;exact iy h hs
  ·cases hs
 ·cases hs
end ops
end Go.Am
namespace Go.Am
open Go
structure a7 (s s':St):Prop where
 sl:∃ pre,s'.ae=pre++s.ae
 bx:∃ pre,s'.boxes=pre++s.boxes
 n:s'.n=s.n
theorem a7.refl (s:St):a7 s s:=⟨⟨[],rfl⟩,⟨[],rfl⟩,rfl⟩
theorem a7.trans {a b c:St} (h:a7 a b) (k:a7 b c):a7 a c:=by
 obtain ⟨p,hp⟩:=h.sl; obtain ⟨q,hq⟩:=k.sl; obtain ⟨p',hp'⟩:=h.bx; obtain ⟨q',hq'⟩:=k.bx;exact ⟨⟨q++p,by rw [hq,hp,List.append_assoc]⟩,⟨q'++p',by rw [hq',hp',List.append_assoc]⟩,k.n.trans h.n⟩
section
variable {E:Env} {R R':ak} {w w':World} {β β':Nat→Nat} {s s':St} {a a':Act}
def ig (R:ak):ak:=⟨R.I,R.obj++[.bU]⟩
theorem ku:Ext R w (ig R) w:=⟨fun _ _ h=>h,fun _ _ _=>rfl,fun _ r h=>⟨r,dv h,cJ.refl r⟩,gC.refl w⟩
theorem r9 {b:Nat} (h:Live (ig R) b):Live R b:=by
 obtain ⟨id,r,h1,h2⟩:=h;rcases ar h1 with h1|⟨_,rfl⟩
 ·exact ⟨id,r,h1,h2⟩
 ·simp [RO.has] at h2
def VM (n sz:Nat):AV:=bif abI 65536 sz then .eF n 0 0 (sz - 65536) 0 else .list (.own n) sz []
def LA (sz:Nat) (e:TypeId):GO:=bif abI 65536 sz then .dZ [] (sz - 65536) e else .tok 0 sz e
theorem PL (sz:Nat) (e:TypeId):gI R w (LA sz e) .bU:=by
 unfold LA;cases abI 65536 sz
 ·exact rfl
 ·exact rfl
theorem H6 {n sz:Nat} (hn:nth R.obj n=some .bU):Rel R w (VM n sz) (.slice none 0 0):=by
 unfold VM;cases abI 65536 sz
 ·exact .mN hn trivial
 ·exact .iY hn trivial
theorem dC.H7 {G:List GO} (h:dC E R w G) (sz:Nat) (e:TypeId):dC E (ig R) w (G++[LA sz e]):=by
 refine ⟨by simp [ig,h.len],fun id g r h1 h2=>?_,fun i j ri rj b h1 h2 b1 b2=>?_,h.wf,fun g cs hg=>(h.cr g cs hg).mono ku,h.lo⟩
 ·rcases ar h2 with h2|⟨h3,rfl⟩
  ·rcases ar h1 with h1|⟨h4,_⟩
   ·exact (h.obj id g r h1 h2).mono ku (fun _ _=>rfl) (fun _ _ _ h=>h)
   ·have cm:=ca h2;rw [h.len] at cm;omega
  ·rcases ar h1 with h1|⟨h4,rfl⟩
   ·have:=ca h1;rw [h3,h.len] at this;omega
   ·exact PL sz e
 ·rcases ar h1 with g1|⟨_,e1⟩
  ·rcases ar h2 with g2|⟨_,e2⟩
   ·exact h.inj i j ri rj b g1 g2 b1 b2
   ·rw [e2] at b2; simp [RO.has] at b2
  ·rw [e1] at b1; simp [RO.has] at b1
theorem bt.H7 (h:bt E R w β s a) (sz:Nat) (e:TypeId):bt E (ig R) w β (s.dU (LA sz e)) a∧Step R w β s.boxes (ig R) w β s.boxes:=by
 refine ⟨⟨h.g.H7 sz e,h.b.aY ku (fun _ _ _=>rfl) (fun _ _ _ _ h=>h) (fun _ _ _ hl=>r9 hl),h.t.mono ku,h.n,h.d.mono (ku (w:=w))⟩,?_⟩;refine ⟨ku,rfl,rfl,rfl,aa3 _,fun _ _ _=>rfl,fun b _ ho=>?_,fun _ _ h _ _=>h⟩;rcases ho with ho|ho
 ·exact .inl (r9 ho)
 ·exact .inr ho
inductive Loc
 |slot (t:Tmp)
 |box (k i:Nat)
 |row (id i:Nat)
def pE (s:St) (l:Loc) (sz:Nat) (e:TypeId):Option St:=
 let v:AV:=VM s.G.length sz
 match abI 196608 sz with
 |true=>some (s.dU (.bK [] (sz - 196608) e))
 |false=>match l with
 |.slot t=>match lk s.ae t with
  |.v (.list .nil _ [])=>some ⟨.put t (.v v) :: s.ae,s.boxes,s.G++[LA sz e],s.marks,s.ro,s.n⟩
  |_=>none
 |.box k i=>match dA s.boxes k with
  |some cs=>match nth cs i with
   |some (.list .nil _ [])=>some ⟨s.ae,(k,aI cs i v) :: s.boxes,s.G++[LA sz e],s.marks,s.ro,s.n⟩
   |_=>none
  |none=>none
 |.row id i=>match nth s.G id with
  |some (.row cs el)=>match nth cs i with
   |some (.list .nil _ [])=>some ⟨s.ae,s.boxes,aI s.G id (.row (aI cs i v) el)++[LA sz e],s.marks,s.ro,s.n⟩
   |_=>none
  |_=>none
def ij:List (Loc × Nat × TypeId)→St→Option St
 |[],s=>some s
 |(l,sz,e) :: r,s=>match pE s l sz e with
  |some s'=>ij r s'
  |none=>none
theorem aN.aI {l:List AV} {cs:List Value} (h:aN R w l cs) {i:Nat} {x y:AV} (hx:nth l i=some x) (hw:∀ c,Rel R w x c→Rel R w y c):aN R w (Am.aI l i y) cs:=by
 induction l generalizing cs i with
 |nil=>simp [nth] at hx
 |cons a l ih=>
  cases h with
  |cons h t=>
   cases i with
   |zero=>simp only [nth] at hx; cases hx; exact .cons (hw _ h) t
   |succ i=>exact .cons h (ih t hx)
theorem bt.VN (h:bt E R w β s a) (sz:Nat) (e:TypeId):bt E (R.add (.bK [])) w β (s.dU (.bK [] sz e)) a∧Step R w β s.boxes (R.add (.bK [])) w β s.boxes:=by
 have no:∀ b,¬ RO.has (.bK []) b:=fun b ⟨j,f,c,hj⟩=>by simp [nth] at hj
 have ext:Ext R w (R.add (.bK [])) w:=⟨fun _ _ h=>h,fun _ _ _=>rfl,fun _ r h=>⟨r,dv h,cJ.refl r⟩,gC.refl w⟩;have live:∀ b,Live (R.add (.bK [])) b→Live R b:=fun b ⟨id,r,h1,h2⟩=>by
  rcases ar h1 with h1|⟨_,rfl⟩
  ·exact ⟨id,r,h1,h2⟩
  ·exact absurd h2 (no b)
 refine ⟨⟨⟨by simp [St.dU,ak.add,h.g.len],fun id g r h1 h2=>?_,fun i j ri rj b h1 h2 b1 b2=>?_,h.g.wf,fun g cs hg=>(h.g.cr g cs hg).mono ext,h.g.lo⟩,h.b.aY ext (fun _ _ _=>rfl) (fun _ _ _ _ h=>h) (fun _ _ _ hl=>live _ hl),h.t.mono ext,h.n,h.d.mono ext⟩,?_⟩
 ·rcases ar h2 with h2|⟨h3,rfl⟩
  ·rcases ar h1 with h1|⟨h4,_⟩
   ·exact (h.g.obj id g r h1 h2).mono ext (fun _ _=>rfl) (fun _ _ _ h=>h)
   ·have cm:=ca h2;rw [h.g.len] at cm;omega
  ·rcases ar h1 with h1|⟨h4,rfl⟩
   ·have:=ca h1;rw [h3,h.g.len] at this;omega
   ·exact ⟨rfl,fun i j f b c f' c' hi=>by simp [nth] at hi,fun j f t hj=>by simp [nth] at hj⟩
 ·rcases ar h1 with g1|⟨_,e1⟩
  ·rcases ar h2 with g2|⟨_,e2⟩
   ·exact h.g.inj i j ri rj b g1 g2 b1 b2
   ·rw [e2] at b2; exact absurd b2 (no b)
  ·rw [e1] at b1; exact absurd b1 (no b)
 ·refine ⟨ext,rfl,rfl,rfl,aa3 _,fun _ _ _=>rfl,fun b _ ho=>?_,fun _ _ h _ _=>h⟩;rcases ho with ho|ho
  ·exact .inl (live b ho)
  ·exact .inr ho
theorem DQ {l:Loc} {sz:Nat} {e:TypeId} (h:bt E R w β s a) (Gj:abI 196608 sz=false) (hs:pE s l sz e=some s'):bt E (ig R) w β s' a∧Step R w β s.boxes (ig R) w β s'.boxes∧s'.ro=s.ro∧a7 s s':=by
 obtain ⟨h1,h2⟩:=h.H7 sz e;have hn:nth (ig R).obj s.G.length=some .bU:=by
  rw [← h.g.len]; exact eQ _ _
 have hw:∀ (bV:Nat) (c:Value),Rel (ig R) w (.list .nil bV []) c→Rel (ig R) w (VM s.G.length sz) c:=fun bV c hc=>by
  cases hc with
  |kC=>exact H6 hn
  |list _ _ _ hk=>exact hk.elim
 unfold pE at hs;rw [Gj] at hs;cases l with
 |slot t=>
  simp only at hs;split at hs
  ·rename_i bV ht;cases hs;refine ⟨⟨h1.g,h1.b,fun i hi=>?_,h1.n,h1.d⟩,h2,rfl,⟨⟨[_],rfl⟩,⟨[],rfl⟩,rfl⟩⟩;by_cases e:t=i
   ·subst e;rw [aA];obtain ⟨c,k1,k2⟩:=h1.t t (by show lk s.ae t≠_; rw [ht]; simp);have Pm:rm (ig R) w β (lk s.ae t) c:=k2;rw [ht] at Pm;exact ⟨c,k1,hw _ _ Pm⟩
   ·rw [aS e] at hi ⊢;exact h1.t i hi
  ·cases hs
 |box k i=>
  simp only at hs;split at hs
  ·rename_i cs hk;split at hs
   ·rename_i bV hi;cases hs;have hb:∀ k' cs',dA ((k,aI cs i (VM s.G.length sz)) :: s.boxes) k'=some cs'→∃ Z8,dA s.boxes k'=some Z8:=fun k' cs' iJ=>by
     rcases eR iJ with ⟨rfl,_⟩|⟨_,iJ⟩
     ·exact ⟨cs,hk⟩
     ·exact ⟨cs',iJ⟩
    refine ⟨⟨h1.g,⟨fun k' cs' iJ=>?_,fun k1 k2 c1 c2 e1 e2 he=>?_⟩,h1.t,h1.n,h1.d⟩,?_,rfl,⟨⟨[],rfl⟩,⟨[_],rfl⟩,rfl⟩⟩
    ·rcases eR iJ with ⟨rfl,rfl⟩|⟨_,iJ⟩
     ·obtain ⟨⟨vs,el,q1,q2,q3⟩,q4⟩:=h1.b.box k cs hk;exact ⟨⟨vs,el,q1,q2.aI hi (hw _),q3⟩,q4⟩
     ·exact h1.b.box k' cs' iJ
    ·obtain ⟨d1,Jx⟩:=hb k1 c1 e1;obtain ⟨d2,VO⟩:=hb k2 c2 e2;exact h.b.inj k1 k2 d1 d2 Jx VO he
    ·refine ⟨h2.ext,rfl,rfl,rfl,aa3 _,fun _ _ _=>rfl,fun b gJ ho=>?_,fun _ _ h _ _=>h⟩;rcases ho with ho|⟨k',cs',iJ,rfl⟩
     ·exact .inl (r9 ho)
     ·obtain ⟨d1,Jx⟩:=hb k' cs' iJ;exact .inr ⟨k',d1,Jx,rfl⟩
   ·cases hs
  ·cases hs
 |row id i=>
  simp only at hs;split at hs
  ·rename_i cs el hid;split at hs
   ·rename_i bV hi;cases hs;refine ⟨⟨⟨by have:=h1.g.len; simpa [St.dU] using this,fun jP go ro q1 q2=>?_,h1.g.inj,h1.g.wf,h1.g.cr,h1.g.lo⟩,h1.b,h1.t,h1.n,h1.d⟩,h2,rfl,⟨⟨[],rfl⟩,⟨[],rfl⟩,rfl⟩⟩;rcases ar q1 with q1|⟨q3,rfl⟩
    ·rcases du q1 with ⟨rfl,rfl,_⟩|⟨cS,q1⟩
     ·have cX:=h1.g.obj id (.row cs el) ro (dv hid) q2;cases ro with
      |ck b=>
       obtain ⟨vs,k1,k2,k3,k4⟩:=cX;exact ⟨vs,k1,k2.aI hi (hw _),k3,k4⟩
      |none=>exact cX.elim
      |bU=>exact cX.elim
      |tok _ _ _=>exact cX.elim
      |bK _=>exact cX.elim
     ·exact h1.g.obj jP go ro (dv q1) q2
    ·refine h1.g.obj jP _ ro ?_ q2;rw [iw] at q3;rw [q3];exact eQ _ _
   ·cases hs
  ·cases hs
theorem yi {l:Loc} {sz:Nat} {e:TypeId} (h:bt E R w β s a) (hs:pE s l sz e=some s'):∃ R',bt E R' w β s' a∧Step R w β s.boxes R' w β s'.boxes∧s'.ro=s.ro∧a7 s s':=by
 cases Gj:abI 196608 sz with
 |true=>
  unfold pE at hs;rw [Gj] at hs;cases hs;obtain ⟨h1,h2⟩:=h.VN (sz - 196608) e;exact ⟨_,h1,h2,rfl,⟨⟨[],rfl⟩,⟨[],rfl⟩,rfl⟩⟩
 |false=>exact ⟨_,DQ h Gj hs⟩
theorem kG:∀ {l:List (Loc × Nat × TypeId)} {R:ak} {s s':St},bt E R w β s a→ij l s=some s'→∃ R',bt E R' w β s' a∧Step R w β s.boxes R' w β s'.boxes∧s'.ro=s.ro∧a7 s s'
 |[],R,s,s',h,hs=>by
  simp only [ij] at hs;cases hs;exact ⟨R,h,Step.refl _ _ _ _,rfl,a7.refl _⟩
 |(l,sz,e) :: r,R,s,s',h,hs=>by
  unfold ij at hs;split at hs
  ·rename_i s1 h1;obtain ⟨R0,g1,g2,g3,g4⟩:=yi h h1;obtain ⟨R',k1,k2,k3,k4⟩:=kG g1 hs;exact ⟨R',k1,g2.trans k2,k3.trans g3,g4.trans k4⟩
  ·cases hs
def VP (s:St) (d:Tmp):List (Option Nat × Nat × TypeId)→Option (List (Loc × Nat × TypeId))
 |[]=>some []
 |(none,sz,e) :: l=>match VP s d l with
  |some r=>some ((.slot d,65536+sz,e) :: r)
  |none=>none
 |(some c,sz,e) :: l=>match VP s d l,lk s.ae d with
  |some r,.lp k off=>some ((.box k (off+c),65536+sz,e) :: r)
  |some r,.v (.ptr id off)=>some ((.row id (off+c),65536+sz,e) :: r)
  |_,_=>none
def jq:List (Loc × Nat × TypeId)→St→St
 |[],s=>s
 |(l,sz,e) :: r,s=>match pE s l sz e with
  |some s'=>jq r s'
  |none=>jq r s
theorem pF:∀ {l:List (Loc × Nat × TypeId)} {R:ak} {s:St},bt E R w β s a→∃ R',bt E R' w β (jq l s) a∧Step R w β s.boxes R' w β (jq l s).boxes∧(jq l s).ro=s.ro∧a7 s (jq l s)
 |[],R,s,h=>⟨R,h,Step.refl _ _ _ _,rfl,a7.refl _⟩
 |(l,sz,e) :: r,R,s,h=>by
  unfold jq;split
  ·rename_i s1 h1;obtain ⟨R0,g1,g2,g3,g4⟩:=yi h h1;obtain ⟨R',k1,k2,k3,k4⟩:=pF (l:=r) g1;exact ⟨R',k1,g2.trans k2,k3.trans g3,g4.trans k4⟩
  ·exact pF (l:=r) h
def Bf (E:Env) (f:FuncId) (o:Oper) (s:St):Option St:=match o.dst with
 |none=>some s
 |some d=>match E.BZ f (d+327680) with
  |true=>match qC false (E.BZ f (d+458752)) s d with
   |some (true,s')=>some s'
   |_=>none
  |false=>match E.gho f d with
   |[]=>some s
   |x :: l=>match VP s d (x :: l) with
    |some r=>some (jq r s)
    |none=>none
theorem pG {cut wk:Bool} {s s':St} {t:Tmp} {c:Bool} (h:qC cut wk s t=some (c,s')):a7 s s':=by
 unfold qC at h
 repeat' (split at h)
 all_goals (first|(cases h; done) | skip)
 all_goals (injection h with h; injection h with _ h; subst h; exact ⟨⟨[_],rfl⟩,⟨[],rfl⟩,rfl⟩)
theorem Jy {f:FuncId} {o:Oper} (h:bt E R w β s a) (hs:Bf E f o s=some s'):∃ R',bt E R' w β s' a∧Step R w β s.boxes R' w β s'.boxes∧s'.ro=s.ro∧a7 s s':=by
 unfold Bf at hs;split at hs
 ·cases hs;exact ⟨R,h,Step.refl _ _ _ _,rfl,a7.refl _⟩
 ·split at hs
  ·split at hs
   ·rename_i s2 hz;cases hs;obtain ⟨R',r1,r2,r3⟩:=vG h hz;exact ⟨R',r1,r2,r3,pG hz⟩
   ·cases hs
  ·split at hs
   ·cases hs;exact ⟨R,h,Step.refl _ _ _ _,rfl,a7.refl _⟩
   ·split at hs
    ·cases hs;exact pF h
    ·cases hs
end
end Go.Am
namespace Go.Am
open Go
def bY (R:ak) (ro:Option Nat) (F:Fence):Prop:=match ro with
 |none=>F=aah
 |some id=>∃ b,nth R.obj id=some (.ck b)∧F=aah.inRound b
theorem bY.mono {R R':ak} {w w':World} (e:Ext R w R' w') {ro:Option Nat} {F:Fence} (h:bY R ro F):bY R' ro F:=by
 cases ro with
 |none=>exact h
 |some id=>obtain ⟨b,h1,h2⟩:=h; exact ⟨b,e.ck h1,h2⟩
theorem bY.fn {R:ak} {ro:Option Nat} {F:Fence} (h:bY R ro F) (f:FuncId):F.fn f:=by
 cases ro with
 |none=>rw [show F=aah from h]; trivial
 |some id=>obtain ⟨b,_,h2⟩:=h; rw [h2]; trivial
theorem bY.depth {R:ak} {ro:Option Nat} {F:Fence} (h:bY R ro F):F.depth=none:=by
 cases ro with
 |none=>rw [show F=aah from h]; rfl
 |some id=>obtain ⟨b,_,h2⟩:=h; rw [h2]; rfl
theorem bY.calls {R:ak} {ro:Option Nat} {F:Fence} (h:bY R ro F) {n:Nat} {P:Program} {f:FuncId} {args:Array Value} {w:World} {Q:Ending→World→Prop} (hc:CallsIn aah n P f args w Q):CallsIn F n P f args w Q:=by
 cases ro with
 |none=>rw [show F=aah from h]; exact hc
 |some id=>obtain ⟨b,_,h2⟩:=h; rw [h2]; exact hc
def Z9 (E:Env) (R:ak) (w:World) (β:Nat→Nat) (s:St) (Q:Exit→St→Prop):Exit→Act→World→Prop:=
 fun e a' w'=>∃ s' R' β',Q e s'∧bt E R' w' β' s' a'∧Step R w β s.boxes R' w' β' s'.boxes∧s'.ro=s.ro
def fS (E:Env) (c:Code) (Q:Exit→St→Prop) (s:St):Prop:=
 ∀ (R:ak) (w:World) (β:Nat→Nat) (a:Act) (F:Fence),bt E R w β s a→bY R s.ro F→c.wpIn F 0 E.P (Z9 E R w β s Q) a w
theorem fS.mono {E:Env} {c:Code} {Q Q':Exit→St→Prop} {s:St} (h:fS E c Q s) (hq:∀ e s,Q e s→Q' e s):fS E c Q' s:=
 fun R w β a F hr hf=>wpIn_mono (h R w β a F hr hf) fun e _ _ ⟨s',R',β',h1,h2⟩=>⟨s',R',β',hq e s' h1,h2⟩
section rules
variable {E:Env} {Q:Exit→St→Prop} {s:St}
theorem fS.skip (h:Q .normal s):fS E .skip Q s:=fun _ _ _ _ _ hr _=>wpIn_skip ⟨s,_,_,h,hr,Step.refl _ _ _ _,rfl⟩
theorem fS.label {l:Nat} (h:Q .normal s):fS E (.label l) Q s:=fun _ _ _ _ _ hr _=>wpIn_label ⟨s,_,_,h,hr,Step.refl _ _ _ _,rfl⟩
theorem fS.exit {id:Nat} (h:Q (.exit id) s):fS E (.exit id) Q s:=fun _ _ _ _ _ hr _=>wpIn_exit ⟨s,_,_,h,hr,Step.refl _ _ _ _,rfl⟩
theorem fS.ret (h:Q .ret s):fS E .ret Q s:=fun _ _ _ _ _ hr _=>wpIn_ret ⟨s,_,_,h,hr,Step.refl _ _ _ _,rfl⟩
def vH (N:St→Prop) (Q:Exit→St→Prop):Exit→St→Prop
 |.normal,s=>N s
 |e,s=>Q e s
theorem fS.seq {x y:Code} (h:fS E x (vH (fS E y Q) Q) s):fS E (.seq x y) Q s:=fun R w β a F hr hf=>by
 refine wpIn_seq (wpIn_mono (h R w β a F hr hf) ?_);rintro e a' w' ⟨s',R',β',hq,ms,jz,b9⟩;cases e with
 |normal=>
  refine wpIn_mono (hq R' w' β' a' F ms (by rw [b9]; exact hf.mono jz.ext)) ?_;rintro e a'' Ui ⟨DA,Py,YY,VQ,Cj,vI,Bg⟩;exact ⟨DA,Py,YY,VQ,Cj,jz.trans vI,Bg.trans b9⟩
 |_=>exact ⟨s',R',β',hq,ms,jz,b9⟩
theorem fS.cond {c:Operand} {x y:Code} {b:Bool} (hc:bP E s.ae c=.v (.bool b)) (h1:b=true→fS E x Q s) (h2:b=false→fS E y Q s):fS E (.cond c x y) Q s:=fun R w β a F hr hf=>by
 have rc:=aW hr c;rw [hc] at rc;have hb:a.eval c=.bool b:=by
  have rc':Rel R w (.bool b) (a.eval c):=rc;generalize a.eval c=v at rc';cases rc';rfl
 exact wpIn_cond_split hb (fun e=>h1 e R w β a F hr hf) (fun e=>h2 e R w β a F hr hf)
def VR (id:Nat) (Q:Exit→St→Prop):Exit→St→Prop
 |.exit jP,s=>(jP=id→Q .normal s)∧(jP≠id→Q (.exit jP) s)
 |e,s=>Q e s
theorem fS.block {id:Nat} {c:Code} (h:fS E c (VR id Q) s):fS E (.block id c) Q s:=fun R w β a F hr hf=>by
 refine wpIn_block (wpIn_mono (h R w β a F hr hf) ?_);rintro e a' w' ⟨s',R',β',hq,rest⟩;cases e with
 |exit jP=>
  by_cases e:jP=id
  ·simp only [Exit.inBlock,e,if_true];exact ⟨s',R',β',hq.1 e,rest⟩
  ·simp only [Exit.inBlock,e,if_false];exact ⟨s',R',β',hq.2 e,rest⟩
 |_=>exact ⟨s',R',β',hq,rest⟩
theorem n3 {F:Fence} {n:Nat} {P:Program} {Q:Exit→Act→World→Prop} {c:Code} (I:Nat→Act→World→Prop)
  (round:∀ m a w,I m a w→c.wpIn F n P (Exit.then (fun a' w'=>∃ m',m' < m∧I m' a' w') Q) a w):∀ {m:Nat} {a:Act} {w:World},I m a w→(Code.loop c).wpIn F n P Q a w:=by
 intro m a w h₀ b k cs b9 hb hr;have key:∀ j a w,I j a w →
   ∃ e a' w',Q e a' w'∧ArrivesIn (Machine.fenced P F) P (lone (b.atR a (.code c :: .inLoop c :: k)) cs w) b k cs e a' w':=by
  intro j
  induction j using Nat.strongRecOn with
  |_ j ih=>
   intro a w hI;obtain ⟨e,a₁,w₁,hq,sa⟩:=round j a w hI b (.inLoop c :: k) cs b9 hb hr;cases e with
   |normal=>
    obtain ⟨m',cm,hI₁⟩:=hq;obtain ⟨e₂,a₂,w₂,hq₂,aaa⟩:=ih m' cm a₁ w₁ hI₁;exact ⟨e₂,a₂,w₂,hq₂,.of_steps (StepsIn.trans sa (.one (fenced_calm hb hr rfl) stepR_inLoop)) aaa⟩
   |exit id=>exact ⟨_,a₁,w₁,hq,.pass (x:=.inLoop c) rfl (fun _ _=>.inl (by simp)) sa⟩
   |goto l=>exact ⟨_,a₁,w₁,hq,.pass (x:=.inLoop c) rfl (fun _ _=>.inl (by simp)) sa⟩
   |ret=>exact ⟨_,a₁,w₁,hq,.pass (x:=.inLoop c) rfl (fun _ _=>.inl (by simp)) sa⟩
   |panic ch=>exact ⟨_,a₁,w₁,hq,.pass (x:=.inLoop c) rfl (fun _ _=>.inl (by simp)) sa⟩
   |outgrown=>exact ⟨_,a₁,w₁,hq,.pass (x:=.inLoop c) rfl (fun _ _=>.inl (by simp)) sa⟩
 obtain ⟨e,a',w',hq,sa⟩:=key _ a w h₀;exact ⟨e,a',w',hq,.of_steps (.one (fenced_calm hb hr rfl) stepR_loop) sa⟩
theorem fS.loop {c:Code} (I:Nat→St→Prop) (round:∀ m s,I m s→fS E c (vH (fun s'=>∃ m',m' < m∧I m' s') Q) s) {m:Nat} (h:I m s):fS E (.loop c) Q s:=fun R w β a F hr hf=>by
 refine n3 (fun m a' w'=>∃ s' R' β',I m s'∧bt E R' w' β' s' a'∧Step R w β s.boxes R' w' β' s'.boxes∧s'.ro=s.ro) ?_ ⟨s,R,β,h,hr,Step.refl _ _ _ _,rfl⟩;rintro m a' w' ⟨s',R',β',hI,ms,jz,b9⟩;refine wpIn_mono (round m s' hI R' w' β' a' F ms (by rw [b9]; exact hf.mono jz.ext)) ?_;rintro e a'' Ui ⟨DA,Py,YY,hq,Cj,vI,Bg⟩;cases e with
 |normal=>
  obtain ⟨m',cm,hI'⟩:=hq;exact ⟨m',cm,DA,Py,YY,hI',Cj,jz.trans vI,Bg.trans b9⟩
 |_=>exact ⟨DA,Py,YY,hq,Cj,jz.trans vI,Bg.trans b9⟩
end rules
def noGoto (Q:Exit→Act→World→Prop):Exit→Act→World→Prop
 |.goto _,_,_=>False
 |e,a,w=>Q e a w
section scopes
variable {P:Program} {b:Frame} {a:Act} {k:List Item} {cs:List Frame} {w:World} {Q:Exit→Act→World→Prop} {F:Fence} {n:Nat}
theorem iz {c:Code}:step P (lone (b.atR a (.code (.scope c) :: k)) cs w)=.next (lone (b.atR a (.code c :: .inScope c :: k)) cs w):=
 step_lone_go (by simp [stepG,stepG.exec,Frame.atR])
theorem Ao {c:Code}:step P (lone (b.atR a (.inScope c :: k)) cs w)=.next (lone (b.atR a k) cs w):=
 step_lone_go (by simp [stepG,stepG.exec,Frame.atR])
theorem Gk {c:Code} (h:c.wpIn F n P (noGoto Q) a w):(Code.scope c).wpIn F n P Q a w:=by
 intro b k cs b9 hb hr;have h0:(lone (b.atR a (.code (.scope c) :: k)) cs w).fenced P F:=fenced_calm hb hr rfl;obtain ⟨e,a₁,w₁,hq,sa⟩:=h b (.inScope c :: k) cs b9 hb hr;cases e with
 |normal=>exact ⟨.normal,a₁,w₁,hq,.head h0 iz (StepsIn.trans sa (.one (fenced_calm hb hr rfl) Ao))⟩
 |exit id=>
  have hx:exitTo id (.inScope c :: k)=exitTo id k:=by simp [exitTo]
  exact ⟨.exit id,a₁,w₁,hq,fun k' hk=>.head h0 iz (sa.1 k' (by rw [hx]; exact hk)),
    fun ms hk=>let ⟨k₁,h1,h2⟩:=sa.2 ms (by rw [hx]; exact hk); ⟨k₁,h1,.head h0 iz h2⟩⟩
 |goto l=>exact hq.elim
 |ret=>exact ⟨_,a₁,w₁,hq,.of_steps (.one h0 iz) sa⟩
 |panic ch=>exact ⟨_,a₁,w₁,hq,.of_steps (.one h0 iz) sa⟩
 |outgrown=>exact ⟨_,a₁,w₁,hq,.of_steps (.one h0 iz) sa⟩
end scopes
def VS (Q:Exit→St→Prop):Exit→St→Prop
 |.goto _,_=>False
 |e,s=>Q e s
theorem fS.scope {E:Env} {c:Code} {Q:Exit→St→Prop} {s:St} (h:fS E c (VS Q) s):fS E (.scope c) Q s:=fun R w β a F hr hf=>by
 refine Gk (wpIn_mono (h R w β a F hr hf) ?_);rintro e a' w' ⟨s',R',β',hq,rest⟩;cases e with
 |goto l=>exact hq.elim
 |_=>exact ⟨s',R',β',hq,rest⟩
def fk:cV:=[]
def H8 (E:Env) (R:ak) (w:World) (Q:AV→List GO→Prop):Ending→World→Prop
 |.returned c,w'=>∃ r G' R',Q r G'∧Rel R' w' r c∧dC E R' w' G'∧Step R w (fun _=>0) fk R' w' (fun _=>0) fk
 |_,_=>False
def Ck (E:Env) (R:ak) (w:World) (Q:Bool→List GO→Prop):Ending→World→Prop
 |.returned c,w'=>∃ r G' R',Q r G'∧c=.bool r∧dC E R' w' G'∧Step R w (fun _=>0) fk R' w' (fun _=>0) fk
 |_,_=>False
def kH (E:Env) (id:Nat) (args:List AV) (G:List GO) (Q:Bool→List GO→Prop):Prop:=
 ∀ (R:ak) (w:World) (cs:List Value) (b:Nat),dC E R w G→aN R w args cs→nth R.obj id=some (.ck b) →
  ∃ r:Loop,w.heap[b]?=some (.loop r)∧cs.length=r.params.size ∧
   RoundIn aah 0 E.P b r.fn ((r.params.zip ⟨cs⟩).foldl (fun tmps (t,a)=>tmps.setIfInBounds t a) r.tmps) r.assign r.body w (Ck E R w Q)
theorem kH.mono {E:Env} {id:Nat} {args:List AV} {G:List GO} {Q Q':Bool→List GO→Prop} (h:kH E id args G Q) (hq:∀ r G',Q r G'→Q' r G'):kH E id args G Q':=
 fun R w cs b hg hl hb=>by
  obtain ⟨r,h1,h2,h3⟩:=h R w cs b hg hl hb;refine ⟨r,h1,h2,h3.mono fun e w' he=>?_⟩;cases e with
  |returned c=>obtain ⟨r,G',R',k1,k2⟩:=he; exact ⟨r,G',R',hq _ _ k1,k2⟩
  |_=>exact he
def Plain (P : Program) (g : FuncId) : Prop := ∃ fn, P.funcs[g]? = some fn ∧ fn.body.isNone = false ∧ (fn.name == "runtime.NumGoroutine") = false
def cG (E:Env) (g:FuncId) (args:List AV) (G:List GO) (Q:AV→List GO→Prop):Prop:=
 Plain E.P g∧∀ (R:ak) (w:World) (cs:List Value),dC E R w G→aN R w args cs→CallsIn aah 0 E.P g ⟨cs⟩ w (H8 E R w Q)
theorem cG.mono {E:Env} {g:FuncId} {args:List AV} {G:List GO} {Q Q':AV→List GO→Prop} (h:cG E g args G Q) (hq:∀ r G',Q r G'→Q' r G'):cG E g args G Q':=
 ⟨h.1,fun R w cs hg hl=>(h.2 R w cs hg hl).mono fun e _ he=>by
  cases e with
  |returned c=>obtain ⟨r,G',R',h1,h2⟩:=he; exact ⟨r,G',R',hq _ _ h1,h2⟩
  |_=>exact he⟩
theorem eU {R:ak} {β:Nat→Nat} {b:Nat} (h:Own R β fk b):Live R b:=by
 rcases h with h|⟨k,cs,hk,_⟩
 ·exact h
 ·simp [fk,dA] at hk
section calls
variable {E:Env} {R R':ak} {w w':World} {β:Nat→Nat} {s:St} {a:Act} {o:Oper}
theorem bt.uC (h:bt E R w β s a) {G':List GO} (hg:dC E R' w' G') (st:Step R w (fun _=>0) fk R' w' (fun _=>0) fk) :
  bt E R' w' β (s.cH G') a∧Step R w β s.boxes R' w' β s.boxes:=by
 have F1:∀ k cs,dA s.boxes k=some cs→β k < w.heap.size∧¬ Live R (β k):=fun k cs hk=>⟨h.eC (.inr ⟨k,cs,hk,rfl⟩),(h.b.box k cs hk).2.2⟩
 have live:∀ b,b < w.heap.size→Live R' b→Live R b:=fun b hb hl=>eU (st.own b hb (.inl hl))
 refine ⟨⟨hg,h.b.aY st.ext (fun k cs hk=>?_) (fun k cs o hk hi=>?_) (fun k cs hk hl=>live _ (F1 k cs hk).1 hl),h.t.mono st.ext,h.n,h.d.mono st.ext⟩,?_⟩
 ·obtain ⟨h1,h2⟩:=F1 k cs hk;exact st.aY _ h1 (fun ho=>h2 (eU ho))
 ·obtain ⟨h1,h2⟩:=F1 k cs hk;exact st.im _ o hi h1 (fun ho=>h2 (eU ho))
 ·refine ⟨st.ext,st.os,st.tape,st.output,st.size,fun b hb hn=>st.aY b hb (fun ho=>hn (.inl (eU ho))),fun b hb ho=>?_,fun b o hi hb hn=>st.im b o hi hb (fun ho=>hn (.inl (eU ho)))⟩;rcases ho with ho|ho
  ·exact .inl (live b hb ho)
  ·exact .inr ho
theorem n5 {P:Program} {g:FuncId} (h:Plain P g) (args:Array Value) (w:World):(callFunc g args).run P w=.ok (.enter g args) w:=by
 obtain ⟨fn,h1,h2,h3⟩:=h;unfold callFunc;simp only [aai,run_program,aag,h1,h2,h3,Bool.false_eq_true,if_false,aaZ]
def pH (E:Env) (R:ak) (w:World) (β:Nat→Nat) (s:St) (K:St→Prop) (a':Act) (w':World):Prop:=
 ∃ s' R' β',K s'∧bt E R' w' β' s' a'∧Step R w β s.boxes R' w' β' s'.boxes∧s'.ro=s.ro
@[simp] theorem iM (s:St) (d:Option Tmp) (x:SV):(s.put d x).ro=s.ro:=by
 cases d with
 |none=>rfl
 |some d=>
  simp only [St.put];split <;> rfl
theorem LC {f:FuncId} {c:Bool} {s':St} (h:iu E f s o=some (c,s')):s'.ro=s.ro:=by
 unfold iu at h;cases h
theorem Jz {f:FuncId} {c:Bool} {s':St} (h:an E f s o=some (c,s')):s'.ro=s.ro:=by
 have alloc:∀ {el:TypeId} {cs:List AV} {c:Bool} {s':St},fb E f s o.dst el cs=some (c,s')→s'.ro=s.ro:=by
  intro el cs c s' h;unfold fb at h
  repeat' (split at h)
  all_goals (first|(cases h; done) | skip)
  all_goals (injection h with h; injection h with _ h; subst h; simp [St.dU,St.wj,St.kill])
 have store:∀ {t:TypeId} {p x:SV} {s':St},jR E s t p x=some s'→s'.ro=s.ro:=by
  intro t p x s' h;unfold jR at h
  repeat' (split at h)
  all_goals (first|(cases h; done) | skip)
  all_goals (injection h with h; subst h; rfl)
 have Gl:∀ {t:TypeId} {p x:SV} {c:Bool} {s':St},jS E s t p x=some (c,s')→s'.ro=s.ro:=by
  intro t p x c s' h;unfold jS at h
  repeat' (split at h)
  all_goals (first|(cases h; done) | skip)
  all_goals (injection h with h; injection h with _ h; subst h)
  all_goals (first|rfl | exact store (by assumption))
 have blt:∀ {b:Builtin} {l:List AV} {tys:List TypeId} {c:Bool} {s':St},bW E s o.dst b l tys=some (c,s')→s'.ro=s.ro:=by
  intro b l tys c s' h;unfold bW at h
  repeat' (split at h)
  all_goals (first|(cases h; done) | skip)
  all_goals (injection h with h; injection h with _ h; subst h; simp [St.cH])
 have update:∀ {t:TypeId} {m k x:SV} {s':St},fc E s t m k x=some s'→s'.ro=s.ro:=by
  intro t m k x s' h;unfold fc at h
  repeat' (split at h)
  all_goals (first|(cases h; done) | skip)
  all_goals (injection h with h; subst h; rfl)
 have next:∀ {x:SV} {s':St},lL s o.dst x=some s'→s'.ro=s.ro:=by
  intro x s' h;unfold lL at h;split at h
  ·split at h
   ·rename_i l pos hg;cases hb:Nat.blt pos l.length <;> rw [hb] at h <;> simp only [cond_true,cond_false] at h <;> cases h <;> simp [St.cH]
   ·cases h
  ·cases h
 have Gm:∀ {t:TypeId} {m k:SV} {c:Bool} {v:AV} {s':St},gi E s t m k=some (c,v,s')→s'.ro=s.ro:=by
  intro t m k c v s' h;unfold gi at h
  repeat' (split at h)
  all_goals (first|(cases h; done) | skip)
  all_goals (injection h with h; injection h with _ h; injection h with _ h; subst h; rfl)
 have Gn:∀ {m st x:SV} {c:Bool} {s':St},eI s m st x=some (c,s')→s'.ro=s.ro:=by
  intro m st x c s' h;unfold eI at h
  repeat' (split at h)
  all_goals (first|(cases h; done) | skip)
  all_goals (injection h with h; injection h with _ h; subst h; rfl)
 unfold an at h
 repeat' (split at h)
 all_goals (first|(cases h; done) | exact alloc h | exact blt h | (rename_i hf; cases h; exact LC hf) | skip)
 all_goals (injection h with h; injection h with _ h; subst h)
 all_goals (first|(simp; done) | (simp [St.dU]; done) | skip)
 all_goals (first|exact Gl (by assumption) | exact update (by assumption) | exact (iM _ _ _).trans (Gm (by assumption)) | exact Gn (by assumption) | exact next (by assumption))
theorem DR {f:FuncId} {F:Fence} {s':St} {K:St→Prop} {Qc:Exit→Act→World→Prop} (h:bt E R w β s a) (hf:bY R s.ro F) (hs:an E f s o=some (true,s')) (hK:K s')
  (nd:∀ c,o.op≠.defer c) (N:Act→World→Prop) (hN:∀ a' w',pH E R w β s K a' w'→N a' w'):o.wpIn F 0 E.P a w N Qc:=by
 obtain ⟨nx,x,w',R',β',h1,h2,h3,h4⟩:=DO h hs;refine ⟨fun f _=>hf.fn f,?_⟩;rw [aaF _ _ _ nd,h1];have:N (a.put o.dst x) w':=hN _ _ ⟨s',R',β',hK,h3,h4,Jz hs⟩;rcases h2 with rfl|⟨rfl,rfl⟩
 ·exact this
 ·exact this
theorem JA {F:Fence} {K:St→Prop} {Qc:Exit→Act→World→Prop} (h:bt E R w β s a) (hf:bY R s.ro F) {fo:Operand} {args:Array Operand} {tys:Array TypeId} (ho:o.op=.call { callee:=.value fo,args:=args,argTypes:=tys })
  {g:FuncId} {first cap l:List AV} (hfo:bP E s.ae fo=.v (.fn g first cap)) (hl:nL E s.ae args.toList=some l)
  (hc:cG E g (first++l++cap) s.G (fun r G'=>K ((s.cH G').put o.dst (.v r)))) (N:Act→World→Prop) (hN:∀ a' w',pH E R w β s K a' w'→N a' w'):o.wpIn F 0 E.P a w N Qc:=by
 refine ⟨fun f _=>hf.fn f,?_⟩;have rf:=aW h fo;rw [hfo] at rf;have rf':Rel R w (.fn g first cap) (a.eval fo):=rf;have rl:=gV h hl;generalize hfv:a.eval fo=fv at rf';cases rf' with
 | @fn _ _ _ vs us h1 h2=>
 have bM:(o.semAt F.round a.eval).run E.P w=.ok (.enter g ⟨vs++args.toList.map a.eval++us⟩) w:=by
  rw [aaF _ _ _ (fun c e=>by rw [ho] at e; cases e)];simp only [execOp,ho,resolve,hfv,acX,aai,aaZ,aag,invoke,kE];have:=n5 hc.1 (⟨vs⟩++⟨args.toList.map a.eval⟩++⟨us⟩) w;simpa using this
 rw [bM];refine ⟨fun e=>by rw [hf.depth] at e; simp at e,hf.calls ?_⟩;refine (hc.2 R w (vs++args.toList.map a.eval++us) h.g ((h1.append rl).append h2)).mono ?_;intro e Ui he;cases e with
 |returned c=>
  obtain ⟨r,G',R',hK,hr,hg,st⟩:=he;obtain ⟨q1,q2⟩:=h.uC hg st;exact hN _ _ ⟨_,R',β,hK,q1.put o.dst (x:=.v r) hr,by rw [bc]; exact q2,by rw [iM]; rfl⟩
 |panicked c=>exact he.elim
 |outgrown=>exact he.elim
theorem bY.rounds {R:ak} {ro:Option Nat} {F:Fence} (h:bY R ro F) {n:Nat} {P:Program} {l:Nat} {f:FuncId} {tmps:Array Value} {tj bd:Code} {w:World} {Q:Ending→World→Prop}
  (hc:RoundIn aah n P l f tmps tj bd w Q):RoundIn F n P l f tmps tj bd w Q:=by
 cases ro with
 |none=>rw [show F=aah from h]; exact hc
 |some id=>obtain ⟨b,_,h2⟩:=h; rw [h2]; exact hc
theorem Gp {F:Fence} {K:St→Prop} {Qc:Exit→Act→World→Prop} (h:bt E R w β s a) (hf:bY R s.ro F) {fo:Operand} {args:Array Operand} {tys:Array TypeId} (ho:o.op=.call { callee:=.value fo,args:=args,argTypes:=tys })
  {id:Nat} {l:List AV} (hfo:bP E s.ae fo=.v (.yield id)) (hl:nL E s.ae args.toList=some l)
  (hc:kH E id l s.G (fun b G'=>K ((s.cH G').put o.dst (.v (.bool b))))) (N:Act→World→Prop) (hN:∀ a' w',pH E R w β s K a' w'→N a' w'):o.wpIn F 0 E.P a w N Qc:=by
 refine ⟨fun f _=>hf.fn f,?_⟩;have rf:=aW h fo;rw [hfo] at rf;have rf':Rel R w (.yield id) (a.eval fo):=rf;have rl:=gV h hl;generalize hfv:a.eval fo=fv at rf';cases rf' with
 | @yield _ b hb=>
 obtain ⟨r,yf,DN,hr3⟩:=hc R w (args.toList.map a.eval) b h.g rl hb;have bM:(o.semAt F.round a.eval).run E.P w=.ok (.round b r.fn ((r.params.zip ⟨args.toList.map a.eval⟩).foldl (fun tmps (t,a)=>tmps.setIfInBounds t a) r.tmps) r.assign r.body) w:=by
  rw [aaF _ _ _ (fun c e=>by rw [ho] at e; cases e)];simp only [execOp,ho,resolve,hfv,acX,aai,aaZ,aag,invoke,kE];have:=run_yield (P:=E.P) yf (args:=⟨args.toList.map a.eval⟩) DN;simpa using this
 rw [bM];refine ⟨fun e=>by rw [hf.depth] at e; simp at e,hf.rounds (hr3.mono ?_)⟩;intro e Ui he;cases e with
 |returned c=>
  obtain ⟨r,G',R',hK,rfl,hg,st⟩:=he;obtain ⟨q1,q2⟩:=h.uC hg st;exact hN _ _ ⟨_,R',β,hK,q1.put o.dst (x:=.v (.bool r)) (Rel.bool r),by rw [bc]; exact q2,by rw [iM]; rfl⟩
 |panicked c=>exact he.elim
 |outgrown=>exact he.elim
end calls
def pI (ops:List Oper) (j:Nat):Option Tmp:=match nth ops j with
 |some o=>o.dst
 |none=>none
def dG:Bool→Prop→Prop
 |true,p=>p
 |false,_=>False
theorem dG.mk {c:Bool} {p:Prop} (h:c=true) (hp:p):dG c p:=by subst h; exact hp
theorem dG.out {c:Bool} {p:Prop} (h:dG c p):c=true∧p:=by
 cases c
 ·exact h.elim
 ·exact ⟨rfl,h⟩
def ke (E:Env) (f:FuncId) (o:Oper) (K:St→Prop) (s:St):Prop:=
 match o.op with
 |.call { callee:=.value x,args,.. }=>match bP E s.ae x,nL E s.ae args.toList with
  |.v (.fn g first cap),some l=>cG E g (first++l++cap) s.G (fun r G'=>K ((s.cH G').put o.dst (.v r)))
  |.v (.yield id),some l=>kH E id l s.G (fun b G'=>K ((s.cH G').put o.dst (.v (.bool b))))
  |_,_=>False
 |.defer _=>False
 |_=>match an E f s o with
  |some (c,s')=>dG c (K s')
  |none=>False
def cw (E:Env) (f:FuncId) (ops:List Oper) (o:Oper) (K:St→Prop) (s:St):Prop:=
 match o.guard with
 |none=>ke E f o K s
 |some (j,want)=>match pI ops j with
  |none=>False
  |some d=>match lk s.ae d with
   |.v (.bool b)=>(b=want→ke E f o K (s.put (some d) (.v (.bool want))))∧(b=!want→K ((s.put (some d) (.v (.bool (!want)))).put o.dst (.v fM)))
   |.v (.bq [])=>K (s.put o.dst (.v fM))
   |_=>False
def fT (E:Env) (f:FuncId) (ops:List Oper) (o:Oper) (K:St→Prop) (s:St):Prop:=
 match o.guard,ju E f s o with
 |none,some s'=>K s'
 |_,_=>cw E f ops o K s
def fm (E:Env) (f:FuncId) (ops:List Oper) (o:Oper) (K:St→Prop) (s:St):Prop:=
 match o.guard,vr E f s o,uj E s o with
 |none,some (c,s'),_=>dG c (K s')
 |none,none,some (c,s0,left,g)=>dG c ((left=[]→K s0)∧∀ i∈left,dG (g i).1 (K (g i).2))
 |_,_,_=>fT E f ops o K s
def fq (E:Env) (f:FuncId) (ops:List Oper) (o:Oper) (K:St→Prop) (s:St):Prop:=
 match Jc E f s o with
 |some (c,s')=>c=true∧fm E f ops o K s'
 |none=>fm E f ops o K s
def Bh (E:Env) (f:FuncId) (o:Oper) (K:St→Prop) (s:St):Prop:=match Bf E f o s with
 |some s'=>K s'
 |none=>False
def pJ (E:Env) (f:FuncId) (ops:List Oper):List Oper→(St→Prop)→St→Prop
 |[],K,s=>K s
 |o :: rest,K,s=>fq E f ops o (Bh E f o (pJ E f ops rest K)) s
section regions
variable {E:Env} {R:ak} {w:World} {β:Nat→Nat} {s:St} {a:Act}
theorem Bi {f:FuncId} {o:Oper} {F:Fence} {K:St→Prop} {Qc:Exit→Act→World→Prop} (h:bt E R w β s a) (hf:bY R s.ro F) (ha:ke E f o K s) (N:Act→World→Prop) (hN:∀ a' w',pH E R w β s K a' w'→N a' w') :
  o.wpIn F 0 E.P a w N Qc:=by
 unfold ke at ha;split at ha
 ·rename_i x args tys ho;split at ha
  ·rename_i g first cap l h1 h2
   exact JA h hf ho h1 h2 ha N hN
  ·rename_i id l h1 h2;exact Gp h hf ho h1 h2 ha N hN
  ·exact ha.elim
 ·exact ha.elim
 ·rename_i nc nd;split at ha
  ·rename_i c s' hs;obtain ⟨rfl,hK⟩:=ha.out;exact DR h hf hs hK (fun c e=>nd c e) N hN
  ·exact ha.elim
theorem bt.DS (h:bt E R w β s a) {d:Tmp} {b t:Bool} (hd:lk s.ae d=.v (.bool b)) (e:b=t):bt E R w β (s.put (some d) (.v (.bool t))) a:=by
 subst e;simp only [St.put];split
 ·refine ⟨h.g,h.b,fun i hi=>?_,h.n,h.d⟩;by_cases e:d=i
  ·subst e;rw [aA];have:=h.t d (by rw [hd]; simp);rw [hd] at this;exact this
  ·rw [aS e] at hi ⊢;exact h.t i hi
 ·exact h
theorem Gq (h:bt E R w β s a) {ops:Array Oper} {j:Nat} {d:Tmp} {b:Bool} (hj:pI ops.toList j=some d) (hd:lk s.ae d=.v (.bool b)):yielded ops a.tmps j=some b:=by
 unfold pI at hj;split at hj
 ·rename_i o ho;rw [bi] at ho;have pd:ops[j]?=some o:=by simpa using ho
  obtain ⟨c,h1,h2⟩:=h.t d (by rw [hd]; simp);rw [hd] at h2;have h2':Rel R w (.bool b) c:=h2;cases h2';simp [yielded,pd,hj,h1]
 ·cases hj
theorem Ap (h:bt E R w β s a) {ops:Array Oper} {j:Nat} {d:Tmp} (hj:pI ops.toList j=some d) (hd:lk s.ae d=.v (.bq [])):yielded ops a.tmps j=none:=by
 unfold pI at hj;split at hj
 ·rename_i o ho;rw [bi] at ho;have pd:ops[j]?=some o:=by simpa using ho
  obtain ⟨c,h1,h2⟩:=h.t d (by rw [hd]; simp);rw [hd] at h2;have h2':Rel R w (.bq []) c:=h2;cases h2';simp [yielded,pd,hj,h1]
 ·cases hj
theorem tk {f:FuncId} {o:Oper} {F:Fence} {ops:Array Oper} {K:St→Prop} {Qc:Exit→Act→World→Prop} (h:bt E R w β s a) (hf:bY R s.ro F) (ha:cw E f ops.toList o K s) (N:Act→World→Prop) (hN:∀ a' w',pH E R w β s K a' w'→N a' w') :
  (if aae o (yielded ops a.tmps) then o.wpIn F 0 E.P a w N Qc else (∀ f,o.about E.P w a.eval=some f→F.fn f)∧N (a.put o.dst undef) w):=by
 unfold cw at ha;split at ha
 ·rename_i hg;have:aae o (yielded ops a.tmps)=true:=by simp [aae,hg]
  rw [if_pos this];exact Bi h hf ha N hN
 ·rename_i j want hg;split at ha
  ·exact ha.elim
  ·rename_i d hd;split at ha
   ·rename_i b hb;have hy:=Gq h hd hb;by_cases hw:b=want
    ·have:aae o (yielded ops a.tmps)=true:=by simp [aae,hg,hy,hw]
     rw [if_pos this];exact Bi (h.DS hb hw) (by rw [iM]; exact hf) (ha.1 hw) N (fun a' w' hh=>hN a' w' (by
      obtain ⟨s',R',β',q1,q2,q3,q4⟩:=hh;exact ⟨s',R',β',q1,q2,by rw [bc] at q3; exact q3,by rw [iM] at q4; exact q4⟩))
    ·have hbw:b=!want:=by cases b <;> cases want <;> simp_all
     have:¬ aae o (yielded ops a.tmps)=true:=by simp [aae,hg,hy,hw]
     rw [if_neg this];refine ⟨fun f _=>hf.fn f,hN _ _ ⟨_,R,β,ha.2 hbw,(h.DS hb hbw).put o.dst (x:=.v fM) (Rel.bq .nil),by rw [bc,bc]; exact Step.refl _ _ _ _,by rw [iM,iM]⟩⟩
   ·rename_i hb;have hy:=Ap h hd hb;have:¬ aae o (yielded ops a.tmps)=true:=by simp [aae,hg,hy]
    rw [if_neg this];exact ⟨fun f _=>hf.fn f,hN _ _ ⟨_,R,β,ha,h.put o.dst (x:=.v fM) (Rel.bq .nil),by rw [bc]; exact Step.refl _ _ _ _,by rw [iM]⟩⟩
   ·exact ha.elim
theorem Aq {f:FuncId} {o:Oper} {F:Fence} {ops:Array Oper} {K:St→Prop} {Qc:Exit→Act→World→Prop} (h:bt E R w β s a) (hf:bY R s.ro F) (ha:fT E f ops.toList o K s) (N:Act→World→Prop) (hN:∀ a' w',pH E R w β s K a' w'→N a' w') :
  (if aae o (yielded ops a.tmps) then o.wpIn F 0 E.P a w N Qc else (∀ f,o.about E.P w a.eval=some f→F.fn f)∧N (a.put o.dst undef) w):=by
 unfold fT at ha;split at ha
 ·rename_i s' hg hb;have:aae o (yielded ops a.tmps)=true:=by simp [aae,hg]
  rw [if_pos this];unfold ju at hb;split at hb
  ·rename_i t len parts ho;split at hb
   ·rename_i d hd;split at hb
    ·split at hb
     ·rename_i i hi;split at hb
      ·rename_i elem bV ag pt z esz es hk hv;cases hb;obtain ⟨nx,x,w',R',β',h1,h2,h3,h4⟩:=ux h t len parts ho hv hi hk;refine ⟨fun f _=>hf.fn f,?_⟩;rw [aaF _ _ _ (fun c e=>by rw [ho] at e; cases e),h1];rw [hd] at h3 h4;have fK:N (a.put o.dst x) w':=hN _ _ ⟨_,R',β',ha,by rw [hd]; exact h3,h4,by rw [iM]; rfl⟩;rcases h2 with rfl|⟨rfl,rfl⟩
       ·exact fK
       ·exact fK
      ·rename_i elem esz ag pt z hk _;split at hb;rotate_left
       ·cases hb
       rename_i cs hv;cases hb;obtain ⟨nx,x,w',R',β',h1,h2,h3,h4⟩:=uw h t len parts ho hv hi hk;refine ⟨fun f _=>hf.fn f,?_⟩;rw [aaF _ _ _ (fun c e=>by rw [ho] at e; cases e),h1];rw [hd] at h3 h4;have fK:N (a.put o.dst x) w':=hN _ _ ⟨_,R',β',ha,by rw [hd]; exact h3,h4,by rw [iM]; rfl⟩;rcases h2 with rfl|⟨rfl,rfl⟩
       ·exact fK
       ·exact fK
      ·cases hb
     ·cases hb
    ·split at hb
     ·split at hb
      ·rename_i i hi;split at hb
       ·rename_i elem bV ag pt z esz es hk hv;split at hb
        ·rename_i hle;cases hb;obtain ⟨nx,x,w',R',β',h1,h2,h3,h4⟩:=uA h t len parts ho hv hi hk (aad hle);refine ⟨fun f _=>hf.fn f,?_⟩;rw [aaF _ _ _ (fun c e=>by rw [ho] at e; cases e),h1];rw [hd] at h3 h4;have fK:N (a.put o.dst x) w':=hN _ _ ⟨_,R',β',ha,by rw [hd]; exact h3,h4,by rw [iM]; rfl⟩;rcases h2 with rfl|⟨rfl,rfl⟩
         ·exact fK
         ·exact fK
        ·cases hb
       ·cases hb
      ·cases hb
     ·split at hb
      ·split at hb
       ·rename_i i hi;split at hb
        ·rename_i elem bV ag pt z esz es hk hv;split at hb
         ·rename_i hle;cases hb;obtain ⟨nx,x,w',R',β',h1,h2,h3,h4⟩:=uy h t len parts ho hv hi hk (aad hle);refine ⟨fun f _=>hf.fn f,?_⟩;rw [aaF _ _ _ (fun c e=>by rw [ho] at e; cases e),h1];rw [hd] at h3 h4;have fK:N (a.put o.dst x) w':=hN _ _ ⟨_,R',β',ha,by rw [hd]; exact h3,h4,by rw [iM]; rfl⟩;rcases h2 with rfl|⟨rfl,rfl⟩
          ·exact fK
          ·exact fK
         ·cases hb
        ·cases hb
       ·cases hb
      ·cases hb
   ·cases hb
  ·cases hb
 ·exact tk h hf ha N hN
theorem LD {f:FuncId} {o:Oper} {c:Bool} {s':St} (h:vr E f s o=some (c,s')):s'.ro=s.ro∧∀ d,o.op≠.defer d:=by
 unfold vr at h;cases h
theorem JB {o:Oper} {c:Bool} {s0:St} {left:List Nat} {g:Nat→Bool × St} (h:uj E s o=some (c,s0,left,g)):(∃ x,o.op=.next x false∧AX E s o.dst (bP E s.ae x)=some (c,s0,left,g))∧s0.ro=s.ro∧∀ i,(g i).2.ro=s.ro:=by
 unfold uj at h;split at h
 ·rename_i x ho;refine ⟨⟨x,ho,h⟩,?_⟩;unfold AX at h;split at h
  ·split at h
   ·split at h
    ·cases h;exact ⟨iM _ _ _,fun i=>iM _ _ _⟩
    ·cases h
   ·cases h
  ·cases h
 ·cases h
theorem uD {f:FuncId} {F:Fence} {o:Oper} {s':St} {K:St→Prop} {Qc:Exit→Act→World→Prop} (hf:bY R s.ro F) (hd:cu E R w β s a o s') (hK:K s') (b9:s'.ro=s.ro)
  (nd:∀ c,o.op≠.defer c) (N:Act→World→Prop) (hN:∀ a' w',pH E R w β s K a' w'→N a' w'):o.wpIn F 0 E.P a w N Qc:=by
 obtain ⟨nx,x,w',R',β',h1,h2,h3,h4⟩:=hd;refine ⟨fun f _=>hf.fn f,?_⟩;rw [aaF _ _ _ nd,h1];have:N (a.put o.dst x) w':=hN _ _ ⟨s',R',β',hK,h3,h4,b9⟩;rcases h2 with rfl|⟨rfl,rfl⟩
 ·exact this
 ·exact this
theorem rI {f:FuncId} {o:Oper} {F:Fence} {ops:Array Oper} {K:St→Prop} {Qc:Exit→Act→World→Prop} (h:bt E R w β s a) (hf:bY R s.ro F) (ha:fm E f ops.toList o K s) (N:Act→World→Prop) (hN:∀ a' w',pH E R w β s K a' w'→N a' w') :
  (if aae o (yielded ops a.tmps) then o.wpIn F 0 E.P a w N Qc else (∀ f,o.about E.P w a.eval=some f→F.fn f)∧N (a.put o.dst undef) w):=by
 unfold fm at ha;split at ha
 ·rename_i c s' hg hb;have:aae o (yielded ops a.tmps)=true:=by simp [aae,hg]
  rw [if_pos this];obtain ⟨rfl,hK⟩:=ha.out;obtain ⟨k1,k2⟩:=LD hb;exact uD (f:=f) hf (Ge h hb) hK k1 k2 N hN
 ·rename_i c s0 left g hg _ hb;have:aae o (yielded ops a.tmps)=true:=by simp [aae,hg]
  rw [if_pos this];obtain ⟨rfl,hK1,hK2⟩:=ha.out;obtain ⟨⟨x,ho,hm⟩,k1,k2⟩:=JB hb;have nd:∀ c,o.op≠.defer c:=fun c e=>by rw [ho] at e; cases e
  rcases Gb h x ho hm with ⟨hl,hd⟩|⟨i,hi,hd⟩
  ·exact uD (f:=f) hf hd (hK1 hl) k1 nd N hN
  ·obtain ⟨q1,q2⟩:=(hK2 i hi).out;exact uD (f:=f) hf (hd q1) q2 (k2 i) nd N hN
 ·exact Aq h hf ha N hN
theorem Ar {f:FuncId} {o:Oper} {F:Fence} {ops:Array Oper} {K:St→Prop} {Qc:Exit→Act→World→Prop} (h:bt E R w β s a) (hf:bY R s.ro F) (ha:fq E f ops.toList o K s) (N:Act→World→Prop) (hN:∀ a' w',pH E R w β s K a' w'→N a' w') :
  (if aae o (yielded ops a.tmps) then o.wpIn F 0 E.P a w N Qc else (∀ f,o.about E.P w a.eval=some f→F.fn f)∧N (a.put o.dst undef) w):=by
 unfold fq at ha;split at ha
 ·rename_i c s' hz;obtain ⟨rfl,ha⟩:=ha;obtain ⟨R1,k1,k2,k3⟩:=Lz h hz;refine rI k1 (by rw [k3]; exact hf.mono k2.ext) ha N ?_;rintro a' w' ⟨s2,R',β',q1,q2,q3,q4⟩;exact hN a' w' ⟨s2,R',β',q1,q2,k2.trans q3,q4.trans k3⟩
 ·exact rI h hf ha N hN
theorem yj {f:FuncId} {F:Fence} {ops:Array Oper} {K:St→Prop} {Qc:Exit→Act→World→Prop} (hQ:∀ a' w',pH E R w β s K a' w'→Qc .normal a' w') :
  ∀ (l:List Nat) (os:List Oper),l.map (fun i=>ops[i]?)=os.map some→∀ (R1:ak) (w1:World) (β1:Nat→Nat) (s1:St) (a1:Act),bt E R1 w1 β1 s1 a1→Step R w β s.boxes R1 w1 β1 s1.boxes→s1.ro=s.ro→bY R1 s1.ro F →
   pJ E f ops.toList os K s1→wpOpsIn F 0 E.P ops Qc l a1 w1
 |[],os,hm,R1,w1,β1,s1,a1,hr,jz,b9,_,ha=>by
  have:os=[]:=by simpa using hm.symm
  subst this;exact hQ _ _ ⟨s1,R1,β1,ha,hr,jz,b9⟩
 |i :: l,[],hm,_,_,_,_,_,_,_,_,_,_=>by simp at hm
 |i :: l,o :: os,hm,R1,w1,β1,s1,a1,hr,jz,b9,hf,ha=>by
  simp only [List.map_cons,List.cons.injEq] at hm;obtain ⟨hi,hm⟩:=hm;simp only [wpOpsIn,hi];refine Ar hr hf (show fq E f ops.toList o (Bh E f o (pJ E f ops.toList os K)) s1 from ha) _ ?_;rintro a' w' ⟨s',R',β',q1,q2,q3,q4⟩;unfold Bh at q1;split at q1
  ·rename_i s2 hp;obtain ⟨R2,p1,p2,p3,_⟩:=Jy q2 hp;exact yj hQ l os hm R2 w' β' s2 a' p1 ((jz.trans q3).trans p2) (p3.trans (q4.trans b9)) (by rw [p3,q4]; exact hf.mono (q3.ext.trans p2.ext)) q1
  ·exact q1.elim
theorem JC (ops:Array Oper):(List.range ops.size).map (fun i=>ops[i]?)=ops.toList.map some:=by
 apply List.ext_getElem?;intro i;simp only [List.getElem?_map];by_cases hi:i < ops.size
 ·rw [List.getElem?_range hi];simp [hi]
 ·rw [abX (by simp; omega),abX (by simp; omega)];rfl
theorem fS.region {f:FuncId} {id:Nat} {ops:Array Oper} {Q:Exit→St→Prop} {s:St} (h:pJ E f ops.toList ops.toList (Q .normal) s):fS E (.region id ops false) Q s:=fun R w β a F hr hf=>by
 refine wpIn_region (yj (R:=R) (w:=w) (β:=β) (s:=s) (K:=Q .normal) (f:=f) ?_ _ _ (JC ops) R w β s a hr (Step.refl _ _ _ _) rfl hf h);rintro a' w' ⟨s',R',β',h1,h2⟩;exact ⟨s',R',β',h1,h2⟩
end regions
end Go.Am
namespace Go.Am
open Go
def YZ:Nat→List AV→bj
 |_,[]=>[]
 |n,a :: l=>.put n (.v a) :: YZ (n+1) l
def St.init (ntmps:Nat) (args:List AV) (G:List GO):St:=
 ⟨YZ 0 args,[],G,[],none,max ntmps args.length⟩
def pK:List Nat→List GO→Option (List GO)
 |[],G=>some G
 |id :: l,G=>match nth G id with
  |some (.defers true)=>pK l (aI G id (.defers false))
  |_=>none
def Gr (E:Env) (s:St):List ResultVar→Option (List AV)
 |[]=>some []
 |.tmp t :: l=>match lk s.ae t,Gr E s l with
  |.v a,some r=>some (a :: r)
  |_,_=>none
 |.cell p t :: l=>match sP E s t (lk s.ae p),Gr E s l with
  |some a,some r=>some (a :: r)
  |_,_=>none
def LF (E:Env) (s:St) (fn:Func):Option AV:=match Gr E s fn.results.toList with
 |some [a]=>some a
 |some l=>some (.bq l)
 |none=>none
def Uq (E:Env) (fn:Func) (Q:AV→List GO→Prop):Exit→St→Prop
 |.normal,s | .ret,s=>match pK s.marks s.G with
  |some G=>match LF E (s.cH G) fn with
   |some r=>Q r G
   |none=>False
  |none=>False
 |_,_=>False
section fns
variable {E:Env} {R:ak} {w:World} {β:Nat→Nat} {s:St} {a:Act}
def yk (tmps:Array Value):ResultVar→Sem Value
 |.tmp t=>pure (tmps.getD t undef)
 |.cell p t=>do loadVar t (← asAddr (tmps.getD p undef))
theorem yl (fn:Func) (tmps:Array Value):results fn tmps=(do
  let vs ← fn.results.mapM (yk tmps)
  pure (if h:vs.size=1 then vs[0] else .tuple vs)):=by
 unfold results;congr 1
theorem tn (h:bt E R w β s a):∀ {l:List ResultVar} {r:List AV},Gr E s l=some r →
  ∃ vs,(l.mapM (yk a.tmps)).run E.P w=.ok vs w∧aN R w r vs
 |[],r,hl=>by
  simp [Gr] at hl;subst hl;exact ⟨[],by simp,.nil⟩
 |.tmp t :: l,r,hl=>by
  unfold Gr at hl;split at hl
  ·rename_i x r' h1 h2;cases hl;obtain ⟨vs,g1,g2⟩:=tn h h2;obtain ⟨c,k1,k2⟩:=h.t t (by rw [h1]; simp);rw [h1] at k2;have hg:a.tmps.getD t undef=c:=by simp [aby,k1]
   refine ⟨c :: vs,?_,.cons k2 g2⟩;simp only [List.mapM_cons,aai,aaZ,aag,yk,hg,g1]
  ·cases hl
 |.cell p t :: l,r,hl=>by
  unfold Gr at hl;split at hl
  ·rename_i v r' h1 h2
   ·cases hl;obtain ⟨vs,g1,g2⟩:=tn h h2;obtain ⟨c,k1,k2⟩:=h.t p (fun e=>by rw [e] at h1; unfold sP at h1; split at h1 <;> simp_all [nK]);have hg:a.tmps.getD p undef=c:=by simp [aby,k1]
    unfold sP at h1;split at h1
    ·rename_i i cs off hi hc;split at h1
     ·rename_i l' hs;obtain ⟨b,o',us,e,q1,q2,q3⟩:=vu h k2 hc;obtain ⟨m1,m2,m3,m4⟩:=qE hs q1 q2;obtain ⟨c',A0,eD⟩:=po (E:=E) hi (b:=b) (off:=o'+off) m1 m2 m3 (fun j y hy=>by rw [Nat.add_assoc]; exact q3 _ _ (m4 j y hy)) h1;refine ⟨c' :: vs,?_,.cons eD g2⟩;have ha:(asAddr c).run E.P w=.ok ⟨b,o'+off,none⟩ w:=by rw [e]; rfl
      have Gs:(yk a.tmps (.cell p t)).run E.P w=.ok c' w:=by
       simp only [yk,aai,hg,ha,aag,A0]
      simp only [List.mapM_cons,aai,aaZ,aag,Gs,g1]
     ·cases h1
    ·cases h1
  ·cases hl
theorem LG (h:bt E R w β s a) {fn:Func} {r:AV} (hr:LF E s fn=some r):∃ c,(results fn a.tmps).run E.P w=.ok c w∧Rel R w r c:=by
 unfold LF at hr;split at hr
 ·rename_i x hl;cases hr;obtain ⟨vs,g1,g2⟩:=tn h hl;cases g2 with
  | @cons _ c _ _ g2 g3=>
  cases g3;refine ⟨c,?_,g2⟩;rw [yl,abD];simp only [aai,Sem.run_map];rw [g1];simp
 ·rename_i l cS hl;cases hr;obtain ⟨vs,g1,g2⟩:=tn h hl;refine ⟨.tuple ⟨vs⟩,?_,.bq g2⟩;have hlen:vs.length≠1:=by
   rw [← g2.length];intro e
   match l,e with
   |[x],_=>exact cS x rfl
  rw [yl,abD];simp only [aai,Sem.run_map];rw [g1];simp [hlen]
 ·cases hr
theorem JD (fn:Func) (Q:Ending→World→Prop):∀ {marks:List Nat} {G G':List GO} {R:ak} {w:World} {β:Nat→Nat} {s:St} {a:Act},bt E R w β (s.cH G) a→rn R marks a.defers→pK marks G=some G' →
  (∀ w' ,bt E R w' β (s.cH G') a→Step R w β s.boxes R w' β s.boxes→∃ v,(results fn a.tmps).run E.P w'=.ok v w'∧Q (.returned v) w')→LeavesInM aah 0 E.P fn a.tmps Q a.defers .returning w:=by
 intro marks;have key:∀ (marks:List Nat) (ds:List Deferred) (G G':List GO) (R:ak) (w:World) (β:Nat→Nat) (s:St) (a:Act),bt E R w β (s.cH G) a→rn R marks ds→pK marks G=some G' →
   (∀ w' ,bt E R w' β (s.cH G') a→Step R w β s.boxes R w' β s.boxes→∃ v,(results fn a.tmps).run E.P w'=.ok v w'∧Q (.returned v) w')→LeavesInM aah 0 E.P fn a.tmps Q ds .returning w:=by
  intro marks
  induction marks with
  |nil=>
   intro ds G G' R w β s a hr hd hl hq;cases ds with
   |cons _ _=>exact hd.elim
   |nil=>
    simp [pK] at hl;subst hl;obtain ⟨v,h1,h2⟩:=hq w hr (Step.refl _ _ _ _);exact ⟨v,h1,h2⟩
  |cons id marks ih=>
   intro ds G G' R w β s a hr hd hl hq;cases ds with
   |nil=>exact hd.elim
   |cons d ds=>
    obtain ⟨⟨b,hb,rfl⟩,hd⟩:=hd;unfold pK at hl;split at hl
    ·rename_i hg;have hob:w.heap[b]?=some (.deferred (some [])):=hr.g.obj id _ _ hg hb;have cm:=bl hob;have Lf:(acz b).run E.P w=.ok [] (World.put w b (.deferred none)):=by
      simp only [acz,getObj,setObj,aai,Sem.run,hob,aag,aaZ];rfl
     obtain ⟨q1,q2⟩:=hr.setObj (s:=s.cH G) (x':=.deferred none) (go':=.defers false) hb hob trivial trivial (fun _ e=>by cases e) (gL w b _ cm);refine ⟨by simp,.inl ⟨b,_,rfl,Lf,?_⟩⟩;refine ih ds (aI G id (.defers false)) G' R _ β s a q1 hd hl (fun w' ms jz=>?_);exact hq w' ms (q2.trans jz)
    ·cases hl
 intro G G' R w β s a hr hd hl hq;exact key marks a.defers G G' R w β s a hr hd hl hq
end fns
end Go.Am
namespace Go.Am
open Go
section intro
variable {E:Env} {R R':ak} {w w':World} {β β':Nat→Nat}
theorem ym {bx KZ:cV} (h:Step R w β bx R' w' β' KZ) (hn:∀ k cs,dA bx k≠some cs):Step R w (fun _=>0) fk R' w' (fun _=>0) fk:=by
 have own:∀ b,Own R β bx b→Live R b:=fun b ho=>by
  rcases ho with ho|⟨k,cs,hk,_⟩
  ·exact ho
  ·exact absurd hk (hn k cs)
 exact ⟨h.ext,h.os,h.tape,h.output,h.size,fun b hb uz=>h.aY b hb (fun ho=>uz (.inl (own b ho))),fun b hb ho=>.inl (own b (h.own b hb (.inl (eU ho)))),fun b o hi hb uz=>h.im b o hi hb (fun ho=>uz (.inl (own b ho)))⟩
theorem LH:∀ {l:List AV} {n i:Nat},(i < n∨n+l.length≤i→lk (YZ n l) i=.none)∧(∀ a,l[i - n]?=some a→n≤i→lk (YZ n l) i=.v a)
 |[],n,i=>⟨fun _=>rfl,fun a h=>by simp at h⟩
 |b :: l,n,i=>by
  obtain ⟨h1,h2⟩:=LH (l:=l) (n:=n+1) (i:=i);refine ⟨fun h=>?_,fun a h hn=>?_⟩
  ·simp only [List.length_cons] at h;simp only [YZ];rw [aS (by omega)];exact h1 (by omega)
  ·simp only [YZ];by_cases e:n=i
   ·subst e;rw [aA];simp at h;rw [h]
   ·rw [aS e];refine h2 a ?_ (by omega);have:i - n=(i - (n+1))+1:=by omega
    rw [this] at h;simpa using h
theorem LI {ntmps:Nat} {args:List AV} {cs:List Value} {G:List GO} (hg:dC E R w G) (hl:aN R w args cs) :
  bt E R w (fun _=>0) (St.init ntmps args G) { tmps:=⟨cs⟩++Array.replicate (ntmps - (⟨cs⟩:Array Value).size) undef,defers:=[] }:=by
 have hlen:=hl.length;refine ⟨hg,⟨fun k c hk=>?_,fun k k' c c' hk _ _=>?_⟩,fun i hi=>?_,?_,trivial⟩
 ·simp [St.init,dA] at hk
 ·simp [St.init,dA] at hk
 ·simp only [St.init] at hi ⊢;obtain ⟨h1,h2⟩:=LH (l:=args) (n:=0) (i:=i);by_cases cm:i < args.length
  ·have hy:args[i]?=some args[i]:=List.getElem?_eq_getElem cm;obtain ⟨c,k1,k2⟩:=hl.get hy;rw [h2 _ (by rw [Nat.sub_zero]; exact hy) (Nat.zero_le _)];refine ⟨c,?_,k2⟩;rw [Array.getElem?_append_left (by simp; omega)];simpa using k1
  ·exact absurd (h1 (by omega)) hi
 ·simp [St.init];omega
theorem Gt {ntmps:Nat} {args:List AV} {G:List GO} (k:Nat) (cs:List AV):dA (St.init ntmps args G).boxes k≠some cs:=by
 simp [St.init,dA]
theorem cG.intro {g : FuncId} {fn : Func} {c : Code} {args : List AV} {G : List GO} {Q : AV → List GO → Prop} (hf : E.P.funcs[g]? = some fn) (hb : fn.body = some c) (hn : (fn.name == "runtime.NumGoroutine") = false)
  (h:fS E c (Uq E fn Q) (St.init fn.ntmps args G)):cG E g args G Q:=by
 refine ⟨⟨fn,hf,by simp [hb],hn⟩,fun R w cs hg hl=>?_⟩;refine callsIn_of_wp_marks hf hb trivial (wpIn_mono (h R w (fun _=>0) _ aah (LI hg hl) rfl) ?_);rintro e a' w' ⟨s',R',β',hq,hr,jz,b9⟩;have fin:(match pK s'.marks s'.G with
  |some G=>match LF E (s'.cH G) fn with
   |some r=>Q r G
   |none=>False
  |none=>False)→LeavesInM aah 0 E.P fn a'.tmps (H8 E R w Q) a'.defers .returning w':=by
  intro hq;split at hq
  ·rename_i G2 hG2;split at hq
   ·rename_i r Gu;refine JD fn (H8 E R w Q) (s:=s') (G:=s'.G) hr hr.d hG2 (fun Ui Cj vI=>?_);obtain ⟨v,h1,h2⟩:=LG Cj Gu;exact ⟨v,h1,r,G2,R',hq,h2,Cj.g,ym (jz.trans vI) Gt⟩
   ·exact hq.elim
  ·exact hq.elim
 cases e with
 |normal=>exact fin hq
 |ret=>exact fin hq
 |exit _=>exact hq.elim
 |goto _=>exact hq.elim
 |panic _=>exact hq.elim
 |outgrown=>exact hq.elim
end intro
end Go.Am
