/- The abstract machine: what it does is what the model does: copy; and one theorem for every operation. -/
import Derived.Test.YtldcljfjjoidhaaGreatDoorAmKE
import Derived.RangeFuncCalls
import Derived.RangeFuncRecord
import Derived.RangeFuncIn
set_option linter.all false
open Array renaming getD_eq_getD_getElem?→abN, mapM_eq_mapM_toList→abO, length_toList→abY
open Bool renaming and_eq_true→aaB, or_eq_true→abR
open Go.Builtin renaming firstCells→aaR, copy_→aa4, clear_→aa5, lenOf→abX, zeroCells→ab2
open Go.Deferred renaming ofValue→ab7
open Go.Fence renaming wide→aaH
open Go.Instr renaming takeDeferred→ab1
open Go.Oper renaming semAt_eq→aaY
open Go.Region renaming wanted→aax
open Go.Result renaming andThen_ok→aaC
open Go.Sem renaming run_bind→aaM, run_pure→aaZ
open Go.Value renaming int→abZ
open List renaming replicate→aaX, length_take→aba, take_append_drop→abq, mem_of_mem_take→abu, getElem?_take→abK, length_map→abT, take_zero→abU, length_replicate→abV, getElem?_eq_none→abW, mem_map→ab0
open Nat renaming eq_of_beq_eq_true→aaa, min→aab, le_of_ble_eq_true→aac, mul_le_mul_right→aa3, le_refl→aa6, min_eq_left→abJ, ble→abP, add_zero→abQ, min_le_left→abS
open Option.some renaming inj→aca
open Prod.mk renaming injEq→aa9
namespace Go.Am
open Go
section ops
variable {E:Env} {R:ak} {w:World} {β:Nat→Nat} {s:St} {a:Act} {o:Oper}
theorem bl.setRow (h:bl E R w β s a) {id b:Nat} {cs cs':List AV} {vs us:List Value} {el:TypeId} (hk:nth s.G id=some (.row cs el)) (hb:nth R.obj id=some (.ca b)) (hw:w.heap[b]?=some (.cells ⟨vs⟩ el (0,0)))
  (hr:aK R w cs' us) (h1:∀ v∈us,v.oneCell'=true):bl E R (w.setRow b ⟨us⟩) β (s.cD (aF s.G id (.row cs' el))) a∧Step R w β s.boxes R (w.setRow b ⟨us⟩) β s.boxes:=by
 obtain ⟨vs',b1,b2,b3,b4⟩:=h.g.obj id _ _ hk hb;have hex:=jb (R:=R) (w:=w) b4 ⟨us⟩;refine ⟨⟨⟨by simp [St.cD,h.g.len],fun jL go ro hg mh=>?_,h.g.inj,fun b' o' uf=>by have:=h.g.wf b' o' uf; simp; omega,fun g cs' hg=>(h.g.ck g cs' hg).mono hex,by first | exact h.g.lo | exact Nat.le_succ_of_le h.g.lo⟩,?_,h.t.mono hex,h.n,h.d⟩,?_⟩
 ·rcases dp hg with ⟨rfl,rfl,_⟩|⟨cQ,rI⟩
  ·rw [hb] at mh;cases mh;exact ⟨_,setRow_heap w _ _ _ _ (0,0) hw,hr.mono hex,h1,b4⟩
  ·refine (h.g.obj jL go ro rI mh).mono hex (fun b' gL=>setRow_other w _ b' _ (fun e=>cQ ?_)) (fun _ _ _ hi=>hi);subst e;exact h.g.inj id jL _ _ b' hb mh rfl gL
 ·exact h.b.aW hex (fun k cs' iG=>setRow_other w _ _ _ (h.Fs hb iG)) (fun _ _ _ _ hi=>hi) (fun _ _ _ hl=>hl)
 ·have BW:Own R β s.boxes b:=.inl ⟨id,_,hb,rfl⟩;exact ⟨hex,rfl,rfl,rfl,by simp,fun b' _ hn=>setRow_other w _ b' _ (fun e=>hn (e ▸ BW)),fun _ _ hb=>hb,fun b o hi _ _=>hi⟩
theorem sW {P:Program} {w:World} {t ty elem:TypeId} {tl:List TypeId} {ie:TypeInfo} {esz n sLen b off len cap:Nat} {src:Value} {vs us:List Value} {el:TypeId} (e2:P.underlying t=some (.slice elem)) (f1:P.info? elem=some ie) (f2:ie.size=esz)
  (hw:w.heap[b]?=some (.cells ⟨vs⟩ el (0,0))) (hs:(abX src).run P w=.ok sLen w) (hn:n=aab sLen len) (hf:(aaR esz n src).run P w=.ok ⟨us⟩ w) (hl:off+us.length≤vs.length) (h1:∀ v∈us,v.oneCell'=true) :
  (aa4 ⟨t :: tl⟩ ty #[.slice (some ⟨b,off,none⟩) len cap,src]).run P w=.ok (.int .i64 n) (w.setRow b ⟨vs.take off++us++vs.drop (off+us.length)⟩):=by
 have lu:=run_storeCells_at (P:=P) b off el us 0 ⟨vs⟩ w hw (by simpa using hl) h1;simp only [abQ] at lu;subst hn;simp [aa4,run_underlying e2,run_sizeOf w f1,f2,hs,hf,lu,goInt]
theorem Ja (h:bl E R w β s a) {args:Array Operand} {t:TypeId} {tl:List TypeId} (ho:o.op=.call { callee:=.builtin .copy,args:=args,argTypes:=⟨t :: tl⟩ }) {d x:AV}
  (hl:nE E s.ae args.toList=some [d,x]) {i:TI} (hi:E.ti t=some i) {elem esz eb:Nat} {ag:Bool} {z:Option AV} (hk:i.k=.sl elem esz ag eb z) {n:Nat} {G':List GO} (hc:sE s esz d x=some (n,G')) :
  cm E R w β s a o ((s.cD G').put o.dst (.v (.int .i64 n))):=by
 have hr:=gT h hl;generalize hv:args.toList.map a.eval=vs at hr;have hx:=fe (E:=E) (w:=w) ho vs hv;cases hr with
 | @cons _ cd _ _ h0 h1=>
 cases h1 with
 | @cons _ cx _ _ h1 h2=>
 cases h2;obtain ⟨hJ,ud,e1,e2,e3,e4,e5,e6⟩:=cu E hi;rw [hk] at e5;obtain ⟨ie,ue,rfl,f1,f2,f3,f4,f5,f6⟩:=ee e5;have fM:∀ {c:Value} {w':World},(aa4 ⟨t :: tl⟩ o.type #[cd,cx]).run E.P w=.ok c w'→(execOp a.eval o).run E.P w=.ok (.value c) w':=fun hh=>by
  rw [hx];simp only [builtin,aaM,hh,aaC,aaZ]
 unfold sE at hc;split at hc
 ·rename_i id off sz len cap;cases h0 with
  | @jZ _ _ _ _ _ b hb E9=>
  split at hc
  ·rename_i cs hg;split at hc
   ·rename_i eY;have eY:=aaa eY;subst eY;obtain ⟨vs,b1,b2,b3,b4⟩:=h.g.obj id _ _ hg hb;split at hc
    ·rename_i k bR es;split at hc
     ·rename_i I4;have La:es=[]∨bR=sz:=by
       simp only [abR] at I4;rcases I4 with hs|hs
       ·exact .inr (aaa hs)
       ·exact .inl (by simpa using hs)
      dsimp only at hc;split at hc
      ·rename_i hle;have hle:=aac hle;injection hc with hc; injection hc with p q;subst p; subst q;obtain ⟨x0,xs,x1,x2,x3,x4⟩:=hY (esz:=sz) h1 La;have Fb:jt sz (es.take (aab es.length len)):=fun e he=>x0 e (abu he)
       have hnl:(aq (es.take (aab es.length len))).length=aab es.length len * sz:=by
        rw [dO Fb,aba,abJ (abS _ _)]
       have U9:aq es=aq (es.take (aab es.length len))++aq (es.drop (aab es.length len)):=by rw [← cX,abq]
       have ej:aK R w (aq (es.take (aab es.length len))) (xs.take (aab es.length len * sz)):=by
        have:=x1.take (aab es.length len * sz);rw [U9,← hnl,List.take_left,hnl] at this;exact this
       have A5:(xs.take (aab es.length len * sz)).length=aab es.length len * sz:=by rw [← ej.length,hnl]
       have vo:∀ v∈xs.take (aab es.length len * sz),v.oneCell'=true:=fun v hv=>x2 v (abu hv)
       have vi:(abX cx).run E.P w=.ok es.length w∧(aaR sz (aab es.length len) cx).run E.P w=.ok ⟨xs.take (aab es.length len * sz)⟩ w:=by
        rcases x4 with ⟨rfl,rfl,ad,rfl,_⟩|⟨b',o',Jb,rfl,_,_,fT,_⟩
        ·exact ⟨rfl,by cases ad <;> simp [aaR,loadCells,loadCellsFrom]⟩
        ·refine ⟨rfl,?_⟩;exact run_firstCells_some (P:=E.P) w sz _ ⟨b',o',none⟩ es.length Jb _ A5 (fun j v hv=>fT j v (by rw [abK] at hv; split at hv <;> first | exact hv | cases hv))
       have bE:=sW (P:=E.P) (tl:=tl) (ty:=o.type) (off:=off) (cap:=cap) e2 f1 f2 b1 vi.1 rfl vi.2 (by rw [A5,← hnl,← b2.length]; exact hle) vo;obtain ⟨r1,r2⟩:=h.setRow hg hb b1 (b2.bf ej hle) (jc b3 vo);exact ⟨_,_,_,R,β,fM bE,.inl rfl,r1.put o.dst (x:=.v (.int .i64 (aab es.length len))) (Rel.int _ _),by rw [a6]; exact r2⟩
      ·cases hc
     ·cases hc
    ·rename_i bs;split at hc
     ·rename_i cL;rw [aaB] at cL;have HA:=aaa cL.1;subst HA;have hle:=aac cL.2;injection hc with hc; injection hc with p q;subst p; subst q;cases h1;have O0:(bs.take (aab bs.length len)).length=aab bs.length len:=by rw [aba,abJ (abS _ _)]
      have OY:((bs.take (aab bs.length len)).map jq).length=(bs.take (aab bs.length len)).length:=abT _;have ej:aK R w ((bs.take (aab bs.length len)).map jq) ((bs.take (aab bs.length len)).map fun b=>abZ .u8 b.toNat):=by
       generalize bs.take (aab bs.length len)=l
       induction l with
       |nil=>exact .nil
       |cons b l ih=>exact .cons (Rel.int .u8 b.toNat) ih
      have vo:∀ v∈(bs.take (aab bs.length len)).map (fun b:UInt8=>abZ .u8 b.toNat),v.oneCell'=true:=fun v hv=>by
       obtain ⟨b,_,rfl⟩:=ab0.1 hv;rfl
      have A5:((bs.take (aab bs.length len)).map fun b:UInt8=>abZ .u8 b.toNat).length=(bs.take (aab bs.length len)).length:=abT _;have vi:(aaR 1 (aab bs.length len) (.string ⟨⟨bs⟩⟩)).run E.P w=.ok ⟨(bs.take (aab bs.length len)).map fun b:UInt8=>abZ .u8 b.toNat⟩ w:=by
       simp [aaR]
      have bE:=sW (P:=E.P) (tl:=tl) (ty:=o.type) (off:=off) (cap:=cap) (src:=.string ⟨⟨bs⟩⟩) (sLen:=bs.length) e2 f1 f2 b1 rfl rfl vi (by rw [A5,← b2.length]; exact hle) vo;obtain ⟨r1,r2⟩:=h.setRow hg hb b1 (b2.bf ej (by rw [OY]; exact hle)) (jc b3 vo);exact ⟨_,_,_,R,β,fM bE,.inl rfl,r1.put o.dst (x:=.v (.int .i64 (aab bs.length len))) (Rel.int _ _),by rw [a6]; exact r2⟩
     ·cases hc
    ·rename_i jL fQ bR Fo Jb;split at hc
     ·rename_i cs' rI;dsimp only at hc;split at hc
      ·rename_i l acU;split at hc
       ·rename_i cL;simp only [aaB] at cL;have hle:=aac cL.2;injection hc with hc; injection hc with p q;subst p; subst q;cases h1 with
        | @jZ _ _ _ _ _ b' gL hlc'=>
        obtain ⟨vs',c1,c2,c3,c4⟩:=h.g.obj jL _ _ rI gL;obtain ⟨s1,s2,s3,s4⟩:=qk acU c2 c3;have A5:=s2.length;have vi:=run_firstCells_some (P:=E.P) w sz (aab Fo len) ⟨b',fQ,none⟩ Fo Jb _ (by rw [← A5,s1]) (fun j v hv=>by rw [cH,jw c1]; exact s4 j v hv);have bE:=sW (P:=E.P) (tl:=tl) (ty:=o.type) (off:=off) (cap:=cap) e2 f1 f2 b1 (src:=.slice (some ⟨b',fQ,none⟩) Fo Jb) (sLen:=Fo) rfl rfl vi (by rw [← A5,← b2.length]; exact hle) s3;obtain ⟨r1,r2⟩:=h.setRow hg hb b1 (b2.bf s2 hle) (jc b3 s3);exact ⟨_,_,_,R,β,fM bE,.inl rfl,r1.put o.dst (x:=.v (.int .i64 (aab Fo len))) (Rel.int _ _),by rw [a6]; exact r2⟩
       ·cases hc
      ·cases hc
     ·cases hc
    ·cases hc
   ·cases hc
  ·cases hc
 ·-- to a slice that grows
  rename_i id f' off sz len;split at hc
  ·rename_i es bR el k szx xs hg;split at hc
   ·rename_i cL;simp only [aaB,abR] at cL;obtain ⟨⟨⟨⟨⟨q1,q2⟩,q3⟩,q4⟩,q5⟩,q6⟩:=cL;have q1:=aaa q1;have q2:=aaa q2;have UY:f'=es.length:=Nat.le_antisymm (aac q4) (aac q5);have q6:=aac q6;subst q1; subst q2;injection hc with hc; injection hc with p q;subst p; subst q;have La:xs=[]∨szx=bR:=by
     rcases q3 with hs|hs
     ·exact .inr (aaa hs)
     ·exact .inl (by simpa using hs)
    obtain ⟨x0,ws,x1,x2,x3,x4⟩:=hY (esz:=bR) h1 La;have Fb:dM bR (xs.take (aab xs.length len)):=A4 _ x0.g;have htl:(xs.take (aab xs.length len)).length=aab xs.length len:=by rw [aba,abJ (abS _ _)]
    have ej:aK R w (aq (xs.take (aab xs.length len))) (ws.take (aab xs.length len * bR)):=by
     rw [jy _ x0.g];exact x1.take _
    have A5:(ws.take (aab xs.length len * bR)).length=aab xs.length len * bR:=by rw [← ej.length,dm Fb,htl]
    have vo:∀ v∈ws.take (aab xs.length len * bR),v.oneCell'=true:=fun v hv=>x2 v (abu hv)
    have vi:(abX cx).run E.P w=.ok xs.length w∧(aaR bR (aab xs.length len) cx).run E.P w=.ok ⟨ws.take (aab xs.length len * bR)⟩ w:=by
     rcases x4 with ⟨rfl,rfl,ad,rfl,_⟩|⟨b',o',Jb,rfl,_,_,fT,_⟩
     ·exact ⟨rfl,by cases ad <;> simp [aaR,loadCells,loadCellsFrom]⟩
     ·refine ⟨rfl,?_⟩;exact run_firstCells_some (P:=E.P) w bR _ ⟨b',o',none⟩ xs.length Jb _ A5 (fun j v hv=>fT j v (by rw [abK] at hv; split at hv <;> first | exact hv | cases hv))
    by_cases BX:aab xs.length len=0
    ·have Lb:∃ base cap,cd=.slice base len cap:=by
      cases h0 with
      |iV=>exact ⟨_,_,rfl⟩
      |eu=>exact ⟨_,_,rfl⟩
     obtain ⟨base,cap,rfl⟩:=Lb;have Pr:=vi.2;rw [BX] at Pr;simp only [Nat.zero_mul,abU] at Pr;have acV:∀ a:Addr,(storeCells a []).run E.P w=.ok () w:=fun a=>by simp [storeCells]
     have bE:(aa4 ⟨t :: tl⟩ o.type #[.slice base len cap,cx]).run E.P w=.ok (.int .i64 (0:Nat)) w:=by
      cases base with
      |none=>simp [aa4,run_underlying e2,run_sizeOf w f1,f2,vi.1,BX,Pr,goInt]
      |some ad=>simp [aa4,run_underlying e2,run_sizeOf w f1,f2,vi.1,BX,Pr,goInt,acV]
     have hG:s.cD (aF s.G id (.dV (bf es off (xs.take (aab xs.length len))) bR el))=s:=by
      rw [BX,abU,eO _ _ _ (by simp; omega)];simp only [List.append_nil,List.length_nil,abQ,abq];rw [ju hg];rfl
     rw [hG,BX];exact ao h (fM bE) (Rel.int .i64 _)
    ·cases h0 with
     |iV=>exact absurd (Nat.le_zero.1 (Nat.min_le_right _ _)) BX
     | @eu _ _ _ _ _ cap b o' ro b6 eJ hU=>
     obtain ⟨b',c',cur,vs,rfl,g1,g2,g3,g4,g5,g6,g7,g8,g9⟩:=lH h.g hg b6 (fun k=>by subst k; exact eJ);obtain ⟨rfl,HI,tS⟩:=eJ.2 UY;have OY:=Nat.min_le_right xs.length len;have oP:o'=off * bR:=by
      rcases tS with tS|tS
      ·exact tS
      ·exact absurd (by show aab xs.length len=0; omega) BX
     subst oP;have OW:es.length * bR≤cur.toList.length:=by
      rw [show cur.toList.length=cur.size from abY,g5];exact aa3 _ g3
     have hle:off * bR+aab xs.length len * bR≤es.length * bR:=by rw [← Nat.add_mul]; exact aa3 _ q6
     have bE:=sW (P:=E.P) (tl:=tl) (ty:=o.type) (vs:=cur.toList) (off:=off * bR) (cap:=cap) (len:=len) e2 f1 f2 g2 vi.1 rfl vi.2 (by rw [A5]; omega) vo;obtain ⟨r1,r2⟩:=h.HG (off:=off) hg b6 g2 g1 g3 g5 g7 g8 g9 (by rw [htl]; exact q6) Fb ej vo;exact ⟨_,_,_,R,β,fM bE,.inl rfl,r1.put o.dst (x:=.v (.int .i64 (aab xs.length len))) (Rel.int _ _),by rw [a6]; exact r2⟩
   ·cases hc
  ·cases hc
 ·cases hc
theorem FV (h:bl E R w β s a) {args:Array Operand} {t:TypeId} (ho:o.op=.call { callee:=.builtin .clear,args:=args,argTypes:=#[t] }) (hd:o.dst=none) {id f' off sz len:Nat}
  (hl:nE E s.ae args.toList=some [.eu id f' off sz len]) {i:TI} (hi:E.ti t=some i) {elem esz eb:Nat} {ag:Bool} {z:AV} (hk:i.k=.sl elem esz ag eb (some z)) {es:List AV} {el:TypeId} (hg:nth s.G id=some (.dV es sz el))
  (eY:sz=esz) (qj:el=elem) (hz:z.cells.length=esz) (su:z.aY=true) (tR:z.closed=true) (UY:f'=es.length) (TJ:off+len≤es.length) :
  cm E R w β s a o (s.cD (aF s.G id (.dV (bf es off (aaX len z)) sz el))):=by
 have hr:=gT h hl;generalize hv:args.toList.map a.eval=vs at hr;have hx:=fe (E:=E) (w:=w) ho vs hv;cases hr with
 | @cons _ cd _ _ h0 h1=>
 cases h1;obtain ⟨hJ,ud,e1,e2,e3,e4,e5,e6⟩:=cu E hi;rw [hk] at e5;obtain ⟨ie,ue,rfl,f1,f2,f3,f4,f5,f6⟩:=ee e5;obtain ⟨zc,acW,Fa⟩:=dj f6;have fM:∀ {c:Value} {w':World},(aa5 #[t] o.type #[cd]).run E.P w=.ok c w'→(execOp a.eval o).run E.P w=.ok (.value c) w':=fun hh=>by
  rw [hx];simp only [builtin,aaM,hh,aaC,aaZ]
 subst eY; subst qj;by_cases BX:len=0
 ·subst BX;have Lb:∃ base cap,cd=.slice base 0 cap:=by
   cases h0 with
   |iV=>exact ⟨_,_,rfl⟩
   |eu=>exact ⟨_,_,rfl⟩
  obtain ⟨base,cap,rfl⟩:=Lb;have bE:(aa5 #[t] o.type #[.slice base 0 cap]).run E.P w=.ok (.tuple #[]) w:=by
   cases base <;> simp [aa5,run_underlying e2]
  have hG:s.cD (aF s.G id (.dV (bf es off (aaX 0 z)) sz el))=s:=by
   rw [List.replicate_zero,eO _ _ _ (by simpa using TJ)];simp only [List.append_nil,List.length_nil,abQ,abq];rw [ju hg];rfl
  rw [hG];have:=ao (s:=s) (sv:=.v (.bk [])) h (fM bE) (Rel.bk (R:=R) (w:=w) .nil);rw [hd] at this;exact this
 ·cases h0 with
  |iV=>exact absurd rfl BX
  | @eu _ _ _ _ _ cap b o' ro b6 eJ hU=>
  obtain ⟨b',c',cur,vs,rfl,g1,g2,g3,g4,g5,g6,g7,g8,g9⟩:=lH h.g hg b6 (fun k=>by subst k; exact eJ);obtain ⟨rfl,HI,tS⟩:=eJ.2 UY;have oP:o'=off * sz:=by
   rcases tS with tS|tS
   ·exact tS
   ·omega
  subst oP;obtain ⟨z1,z2⟩:=mN (Fa R w) su len;have hzl:zc.cells.size=sz:=by rw [← hz,(Rel.cells (Fa R w) su).1.length]; simp
  have xD:(ab2 zc.cells len).toList=(aaX len zc.cells.toList).flatten:=by
   simpa [ab2] using pf zc.cells len
  have UZ:((aaX len zc.cells.toList).flatten).length=len * sz:=by rw [← z1.length,dO (fS hz su tR),abV]
  have OW:es.length * sz≤cur.toList.length:=by
   rw [show cur.toList.length=cur.size from abY,g5];exact aa3 _ g3
  have hle:off * sz+len * sz≤es.length * sz:=by rw [← Nat.add_mul]; exact aa3 _ TJ
  have lu:=run_storeCells_at (P:=E.P) b (off * sz) el (aaX len zc.cells.toList).flatten 0 ⟨cur.toList⟩ w g2 (by rw [UZ]; simp only [List.size_toArray]; omega) z2;simp only [abQ] at lu;have bE:(aa5 #[t] o.type #[.slice (some ⟨b,off * sz,none⟩) len cap]).run E.P w=.ok (.tuple #[]) (w.setRow b ⟨cur.toList.take (off * sz)++(aaX len zc.cells.toList).flatten++cur.toList.drop (off * sz+((aaX len zc.cells.toList).flatten).length)⟩):=by
   obtain ⟨m,rfl⟩:∃ m,len=m+1:=⟨len - 1,by omega⟩;simp only [aa5];simp [run_underlying e2,gM w f1 acW,xD,lu]
  obtain ⟨r1,r2⟩:=h.HG (off:=off) (ns:=aaX len z) hg b6 g2 g1 g3 g5 g7 g8 g9 (by rw [abV]; exact TJ) (fS hz su tR).g z1 z2;exact ⟨_,.tuple #[],_,R,β,fM bE,.inl rfl,by rw [hd]; exact r1,r2⟩
theorem DA {f:FuncId} {s':St} (h:bl E R w β s a) (hs:an E f s o=some (true,s')):cm E R w β s a o s':=by
 unfold an at hs;split at hs
 ·rename_i x ho;split at hs
  ·rename_i y hy;cases hs;exact kl h x (.inl ho) hy
  ·rename_i k off hy;cases hs;exact kl h x (.inl ho) hy
  ·rename_i hy;cases hs;exact kl h x (.inl ho) hy
 ·rename_i x ho;split at hs
  ·rename_i y hy;cases hs;exact kl h x (.inr ho) hy
  ·rename_i k off hy;cases hs;exact kl h x (.inr ho) hy
  ·rename_i hy;cases hs;exact kl h x (.inr ho) hy
 ·rename_i c x y ho;split at hs
  ·rename_i t p q h1 h2 h3;cases hs;exact IW h c x y ho h1 h2 h3
  ·cases hs
 ·rename_i t ho;split at hs
  ·rename_i i hi;split at hs
   ·rename_i z hz;split at hs
    ·rename_i hn;exact Fv h t ho hi hz hn hs
    ·cases hs
   ·cases hs
  ·cases hs
 ·rename_i t x ho;split at hs
  ·rename_i v hv;split at hs
   ·rename_i hn;exact KM h t x ho hv hn hs
   ·cases hs
  ·cases hs
 ·rename_i t parts ho;split at hs
  ·rename_i v hv;cases hs;exact FA h t parts ho hv
  ·cases hs
 ·rename_i t len parts ho;split at hs
  ·rename_i v hv;cases hs;exact vY h t len parts ho hv
  ·cases hs
 ·rename_i t x ho;split at hs
  ·rename_i c v hv;injection hs with hs; injection hs with h1 h2;subst h1; subst h2;exact FI h t x ho hv
  ·cases hs
 ·rename_i t p x ho;split at hs
  ·rename_i c Dl hd lu;injection hs with hs; injection hs with h1 h2;subst h1; subst h2;exact Dk h t p x ho hd lu
  ·cases hs
 ·rename_i op t x y u ho;split at hs
  ·rename_i p q hx hy;split at hs
   ·rename_i c v hv;injection hs with hs; injection hs with h1 h2;subst h1; subst h2;exact Fy h op t u x y ho hx hy hv
   ·rename_i hb;split at hs
    ·rename_i r hr;injection hs with hs; injection hs with h1 h2;subst h2;exact KO h op t u x y ho hx hy hb hr
    ·cases hs
  ·cases hs
 ·rename_i op t x ho;split at hs
  ·rename_i b hx;cases hs;exact KP h t x ho hx
  ·rename_i k n hx;cases hs;exact KQ h t x ho hx
  ·cases hs
 ·rename_i t u x ho;split at hs
  ·rename_i c v hc;injection hs with hs; injection hs with h1 h2;subst h1; subst h2;exact B9 h t u x ho hc
  ·cases hs
 ·rename_i x ho;split at hs
  ·rename_i id off hx;cases hs;exact ra h x ho hx (.inl ⟨_,_,rfl⟩)
  ·rename_i k off hx;cases hs;exact ra h x ho hx (.inr ⟨_,_,rfl⟩)
  ·cases hs
 ·rename_i g x y ho;split at hs
  ·rename_i p q hp hq;cases hs;exact An h g x y ho hp hq
  ·cases hs
 ·rename_i t x j ho;split at hs
  ·rename_i q hq;cases hs;exact xw h t x j ho hq
  ·cases hs
 ·rename_i t x j ho;split at hs
  ·rename_i v hv;cases hs;exact Fw h t x j ho hv
  ·cases hs
 ·rename_i t x ix ho;split at hs
  ·rename_i c q hq;injection hs with hs; injection hs with h1 h2;subst h1; subst h2;exact xx h t x ix ho hq
  ·cases hs
 ·rename_i t x ix ho;split at hs
  ·rename_i c v hv;injection hs with hs; injection hs with h1 h2;subst h1; subst h2;exact Fx h t x ix ho hv
  ·cases hs
 ·rename_i t x lo hi mx ho;split at hs
  ·rename_i l h' hl hh;split at hs
   ·rename_i c v hv;injection hs with hs; injection hs with h1 h2;subst h1; subst h2;cases mx with
    |none=>exact FC h t x lo hi ho hl hh hv
    |some m=>
     unfold BT at hv;split at hv
     ·rename_i hmx;cases hmx
     ·cases hv
   ·cases hs
  ·cases hs
 ·rename_i x j ho;split at hs
  ·rename_i vs hx;split at hs
   ·rename_i v hn;cases hs;exact BZ h x j ho hx hn
   ·cases hs
  ·cases hs
 ·rename_i t x y ho;split at hs
  ·rename_i i k n k' m hi hx hy;split at hs
   ·rename_i elem esz ag eb z hk;split at hs
    ·rename_i cL;simp only [aaB] at cL;split at hs
     ·split at hs
      ·rename_i tR;injection hs with hs; injection hs with h1 h2;subst h2;exact v7 h t x y ho hi hx hy hk (aaa cL.1.1) (aac cL.1.2) cL.2 tR (of_decide_eq_true h1)
      ·cases hs
     ·injection hs with hs; injection hs with h1 h2;subst h2;exact xF h t x y ho hi hx hy hk (aaa cL.1.1) (aac cL.1.2) cL.2 (of_decide_eq_true h1)
    ·cases hs
   ·cases hs
  ·cases hs
 ·rename_i t m k ok ho;split at hs
  ·rename_i v b hv;cases hs;exact Du h t m k ok ho hv
  ·cases hs
 ·rename_i t m k x ho;split at hs
  ·rename_i Dl hd hv;cases hs;exact pq h t m k x (.inl ho) hd hv
  ·cases hs
 ·rename_i t m k x ho;split at hs
  ·rename_i Dl hd hv;cases hs;exact pq h t m k x (.inr ho) hd hv
  ·cases hs
 ·rename_i x ho;split at hs
  ·rename_i c v hv;injection hs with hs; injection hs with h1 h2;subst h1; subst h2;exact FR h x ho hv
  ·cases hs
 ·rename_i t m k ho;split at hs
  ·rename_i c v Dl hv;injection hs with hs; injection hs with h1 h2;subst h1; subst h2;exact Ap h t m k ho hv
  ·cases hs
 ·rename_i t m st x ho;split at hs
  ·rename_i c Dl hd hv;injection hs with hs; injection hs with h1 h2;subst h1; subst h2;exact wj h t m st x ho hd hv
  ·cases hs
 ·rename_i t x ho;split at hs
  ·rename_i i l hi hx;split at hs
   ·rename_i hk;cases hs;exact FN h t x ho hi hk hx
   ·cases hs
  ·rename_i i id hi hx;split at hs
   ·rename_i hk hg;cases hs;exact Dw h t x ho hi hk hx hg
   ·cases hs
  ·cases hs
 ·rename_i x ho;split at hs
  ·rename_i Dl hv;cases hs;exact I7 h x ho hv
  ·cases hs
 ·rename_i t ho;cases hs;exact B3 h t ho
 ·rename_i b args tys ho;split at hs
  ·rename_i r hf;cases hs;exact FT h hf
  ·split at hs
   ·rename_i l hl;have Jc:tys=⟨tys.toList⟩:=rfl;cases b with
    |len=>
     exact KU h (tys:=tys.toList) (by rw [ho]) hl hs
    |append=>
     unfold bT at hs;split at hs <;> first | (rename_i hb; cases hb; done) | skip
     ·rename_i x k sz ys;split at hs
      ·rename_i t u FW;split at hs
       ·rename_i i hi;split at hs
        ·rename_i elem esz ag eb z hk;split at hs
         ·rename_i cL;simp only [aaB,abR] at cL;obtain ⟨⟨⟨⟨⟨c1,c2⟩,c3⟩,c4⟩,c5⟩,c6⟩:=cL;split at hs
          ·rename_i c v G' ha;injection hs with hs; injection hs with h1 h2;subst h1; subst h2;have htu:=aaa c2;subst htu;have FX:tys=#[t,t]:=by rw [Jc,FW]
           rw [FX] at ho;refine Dq h ho hl hi hk ?_ (aac c3) (aac c4) (aaa c5) c6 ha;rcases c1 with c1|c1
           ·exact .inr (aaa c1)
           ·exact .inl (by simpa using c1)
          ·cases hs
         ·cases hs
        ·cases hs
       ·cases hs
      ·cases hs
     ·rename_i x bs;split at hs
      ·rename_i t u FW;split at hs
       ·rename_i i j hi hj;split at hs
        ·rename_i elem esz ag eb z hk YZ;split at hs
         ·rename_i cL;simp only [aaB] at cL;obtain ⟨⟨⟨c1,c2⟩,c3⟩,c4⟩:=cL;split at hs
          ·rename_i c v G' ha;injection hs with hs; injection hs with h1 h2;subst h1; subst h2;have c1:=aaa c1;subst c1;have FX:tys=#[t,u]:=by rw [Jc,FW]
           rw [FX] at ho;exact wi h ho hl hi hj hk YZ (aac c2) (aaa c3) c4 ha
          ·cases hs
         ·cases hs
        ·cases hs
       ·cases hs
      ·cases hs
     ·cases hs
    |copy=>
     unfold bT at hs;split at hs <;> first | (rename_i hb; cases hb; done) | skip
     ·rename_i d x;split at hs
      ·rename_i t tl FW;split at hs
       ·rename_i i hi;split at hs
        ·rename_i elem esz ag eb z hk;split at hs
         ·rename_i n G' hc;injection hs with hs; injection hs with h1 h2;subst h2;have FX:tys=⟨t :: tl⟩:=by rw [Jc,FW]
          rw [FX] at ho;exact Ja h ho hl hi hk hc
         ·cases hs
        ·cases hs
       ·cases hs
      ·cases hs
     ·cases hs
    |clear=>
     unfold bT at hs;split at hs <;> first | (rename_i hb; cases hb; done) | skip
     ·split at hs
      ·rename_i t id f' off sz len hd FW;split at hs
       ·rename_i i es bR el hi hg;split at hs
        ·rename_i elem esz ag eb z hk;split at hs
         ·rename_i cL;simp only [aaB] at cL;obtain ⟨⟨⟨⟨⟨c1,c2⟩,c3⟩,c4⟩,c5⟩,c6⟩:=cL;have c1:=aaa c1;have c2:=aaa c2;have c3:=aaa c3;have c4:=aaa c4;injection hs with hs; injection hs with h1 h2;subst h2;rw [aaB,decide_eq_true_eq,decide_eq_true_eq] at h1;have FX:tys=#[t]:=by rw [Jc,FW]
          rw [FX] at ho;subst c2;exact FV h ho hd hl hi hk hg c1 c3 c4 c5 c6 h1.1 h1.2
         ·cases hs
        ·cases hs
       ·cases hs
      ·cases hs
     ·cases hs
    |max=>
     unfold bT at hs;split at hs <;> first | (rename_i hb; cases hb; done) | skip
     ·rename_i x l';split at hs
      ·rename_i v hm;cases hs;exact KV h ho hl hm
      ·cases hs
     ·cases hs
    |min=>
     unfold bT at hs;split at hs <;> first | (rename_i hb; cases hb; done) | skip
     ·rename_i x l';split at hs
      ·rename_i v hm;cases hs;exact KW h ho hl hm
      ·cases hs
     ·cases hs
    |_=>
     unfold bT at hs;split at hs <;> first | (rename_i hb; cases hb; done) | (cases hs; done)
   ·cases hs
 ·cases hs
def ak.all (R:ak) (b:Nat):ak:=⟨fun b' o=>R.I b' o∨b'=b,R.obj⟩
theorem qn (R:ak) (w:World) (b:Nat):Ext R w (R.all b) w:=⟨fun _ _ h=>.inl h,fun _ _ _=>rfl,fun _ ro h=>⟨ro,h,cF.refl ro⟩,gE.refl w⟩
theorem dB.freeze {G:List GO} (h:dB E R w G) {id b:Nat} {ro:RO} (b6:nth R.obj id=some ro) (hb:ro.has b) (Y8:gK (R.all b) w .dead ro):dB E (R.all b) w (aF G id .dead):=by
 have e:=qn R w b;have bZ:=h.b9 ⟨id,ro,b6,hb⟩;refine ⟨by show R.obj.length=_; rw [ik]; exact h.len,fun jL go mI q1 q2=>?_,h.inj,fun b' o ho=>?_,fun g cs rJ=>(h.ck g cs rJ).mono e,h.lo⟩
 ·rcases dp q1 with ⟨rfl,rfl,_⟩|⟨cQ,q1⟩
  ·have:mI=ro:=aca (q2.symm.trans b6);subst this;exact Y8
  ·refine (h.obj jL go mI q1 q2).mono e (fun _ _=>rfl) (fun b' o gL ho=>?_);rcases ho with ho|ho
   ·exact ho
   ·subst ho;exact absurd (h.inj id jL _ _ b' b6 q2 hb gL) cQ
 ·rcases ho with ho|ho
  ·exact h.wf b' o ho
  ·subst ho; exact bZ
theorem pt:∀ {l:List AV} {x:AV},aB l=true→x∈l→x.closed=true
 |[],_,_,h=>by simp at h
 |a :: l,x,h,hx=>by
  simp only [aB,aaB] at h;rcases List.mem_cons.1 hx with rfl|hx
  ·exact h.1
  ·exact pt h.2 hx
theorem sX:∀ l r:List AV,lB (l++r)=lB l++lB r
 |[],_=>rfl
 |a :: l,r=>by simp only [List.cons_append,lB,sX l r]
theorem sY:∀ l:List AV,(lB l).length=l.length
 |[]=>rfl
 |a :: l=>by simp only [lB,List.length_cons,sY l]
theorem xS (e:AV):e.gY.cells=lB e.cells:=by
 cases e with
 |list k sz es=>cases k <;> simp only [AV.gY,AV.cells,lB]
 |_=>simp only [AV.gY,AV.cells,lB]
theorem DB (e:AV):e.gY.aY=e.aY:=by
 cases e with
 |list k sz es=>cases k <;> simp only [AV.gY,AV.aY]
 |_=>simp only [AV.gY,AV.aY]
theorem vp:∀ es:List AV,aq (es.map AV.gY)=lB (aq es)
 |[]=>rfl
 |e :: es=>by simp only [List.map_cons,aq,xS,vp es,sX]
theorem Ps {wk:Bool} {es:List AV} {vs:List Value} (h:aK R w (aq es) vs):aK R w (aq (AT wk es)) vs:=by
 cases wk with
 |false=>exact h
 |true=>
  show aK R w (aq (es.map AV.gY)) vs;rw [vp];exact h.gY
theorem FY (wk:Bool) (es:List AV):(AT wk es).length=es.length:=by
 cases wk
 ·rfl
 ·exact abT _
theorem Lc (wk:Bool) (n:Nat) (es:List AV):AT wk (es.take n)=(AT wk es).take n:=by
 cases wk
 ·rfl
 ·exact List.map_take
theorem HN (wk:Bool):AT wk []=[]:=by cases wk <;> rfl
theorem Ld {wk:Bool} {sz:Nat} {es:List AV} (h:dM sz es) (hc:aB (AT wk es)=true):jt sz (AT wk es):=by
 cases wk with
 |false=>exact fun x hx=>⟨(h x hx).1,(h x hx).2,pt hc hx⟩
 |true=>
  intro x hx;refine ⟨?_,?_,pt hc hx⟩
  ·obtain ⟨y,hy,rfl⟩:=ab0.1 hx;rw [xS,sY];exact (h y hy).1
  ·obtain ⟨y,hy,rfl⟩:=ab0.1 hx;rw [DB];exact (h y hy).2
theorem nR {wk:Bool} {G:List GO} (h:dB E R w G) {id f sz len:Nat} {es:List AV} {el:TypeId} (hid:nth G id=some (.dV es sz el)) (hf:f=es.length) (hl:len≤es.length) (jm:aB (AT wk es)=true) {ro:RO} (b6:nth R.obj id=some ro) :
  ∃ R',dB E R' w (aF G id .dead)∧Ext R w R' w∧R'.obj=R.obj∧(∀ b o,R'.I b o→R.I b o∨ro.has b)∧∀ c,Rel R w (.eu id f 0 sz len) c→Rel R' w (.list .lq sz (AT wk (es.take len))) c:=by
 by_cases hn:ro=.bO
 ·subst hn;have he:es=[]:=h.obj id _ _ hid b6;subst he;refine ⟨R,?_,Ext.refl R w,rfl,fun _ _ hi=>.inl hi,fun c hc=>?_⟩
  ·refine ⟨by rw [ik]; exact h.len,fun jL go mI q1 q2=>?_,h.inj,h.wf,h.ck,h.lo⟩;rcases dp q1 with ⟨rfl,rfl,_⟩|⟨cQ,q1⟩
   ·have:mI=.bO:=aca (q2.symm.trans b6);subst this;trivial
   ·exact h.obj jL go mI q1 q2
  ·rw [List.take_nil,HN];cases hc with
   |iV=>exact .ja
   |eu h1 h2 _=>
    rw [b6] at h1;cases h1;exact h2.elim
 ·obtain ⟨b,c',cur,vs,rfl,g0,g2,g3,g4,g5,g6,g7,g8,g9⟩:=lH h hid b6 hn;have g1:jt sz (AT wk es):=Ld g0 jm;have e:=qn R w b;refine ⟨R.all b,h.freeze b6 rfl (bi g2),e,rfl,fun b' o hi=>?_,fun c hc=>?_⟩
  ·rcases hi with hi|rfl
   ·exact .inl hi
   ·exact .inr rfl
  ·cases hc with
   |iV h1 h2=>
    rw [b6] at h1;cases h1;simp only [nH] at h2;omega
   | @eu _ _ _ _ _ cap b1 o1 _ h1 h2 h3=>
    rw [b6] at h1;cases h1;obtain ⟨rfl,k2,k3⟩:=h2.2 hf;by_cases uk:len=0
    ·subst uk;rw [abU,HN];exact Rel.list .nil rfl h3 trivial
    rw [Lc];refine Rel.list (uh len (mM g1 (dR.make ((Ps g7).mono e) g8 (fun j v hj=>?_) (fun j hj=>.inr rfl)))) (by rw [aba,FY,abJ hl]) h3 trivial;have ho:o1=0:=by
     rcases k3 with k3|k3
     ·rw [k3,Nat.zero_mul]
     ·omega
    subst ho;rw [Nat.zero_add,cell_of_row w b1 j cur el (0,0) g2];rw [← g9,abK] at hj;split at hj
    ·rw [← Array.getElem?_toList]; exact hj
    ·cases hj
theorem sZ {wk:Bool}:∀ {cs cs':List AV} {G G':List GO} {vs:List Value} {R:ak},dB E R w G→aK R w cs vs→mF wk cs G=(true,cs',G') →
  ∃ R',dB E R' w G'∧aK R' w cs' vs∧Ext R w R' w∧R'.obj=R.obj∧∀ b o,R'.I b o→R.I b o∨Live R b
 |[],cs',G,G',vs,R,hg,hr,h=>by
  simp only [mF,aa9,true_and] at h;obtain ⟨rfl,rfl⟩:=h;exact ⟨R,hg,hr,Ext.refl R w,rfl,fun _ _ h=>.inl h⟩
 |x :: l,cs',G,G',vs,R,hg,hr,h=>by
  cases hr with
  |cons h0 hr=>
  unfold mF at h;split at h
  ·rename_i lG;cases lG
  ·rename_i id f sz len l1 lG;obtain ⟨rfl,rfl⟩:=List.cons.inj lG;split at h
   ·rename_i es bR el hid;generalize h2:mF wk l _=q0 at h;obtain ⟨c',q⟩:=q0;obtain ⟨Y9,G2⟩:=q;simp only [aa9,aaB,decide_eq_true_eq] at h;obtain ⟨⟨⟨⟨⟨hf,hlen⟩,eY⟩,jm⟩,rfl⟩,rfl,rfl⟩:=h;have eY:=aaa eY;subst eY;obtain ⟨ro,b6⟩:∃ ro,nth R.obj id=some ro:=by
     cases h0 with
     |iV q _=>exact ⟨_,q⟩
     |eu q _ _=>exact ⟨_,q⟩
    obtain ⟨R1,r1,r2,r3,r4,r5⟩:=nR (wk:=wk) hg hid hf (Nat.le_of_eq hlen) jm b6;have r6:=r5 _ h0;rw [hlen,List.take_length] at r6;obtain ⟨R2,b1,b2,b3,b4,b5⟩:=sZ r1 (hr.mono r2) h2;refine ⟨R2,b1,.cons (r6.mono b3) b2,r2.trans b3,b4.trans r3,fun b o ho=>?_⟩;rcases b5 b o ho with ho|ho
    ·exact (r4 b o ho).imp_right fun hb=>⟨id,ro,b6,hb⟩
    ·obtain ⟨i,r,q1,q2⟩:=ho;rw [r3] at q1;exact .inr ⟨i,r,q1,q2⟩
   ·generalize h2:mF wk l _=q0 at h;obtain ⟨c',q⟩:=q0;simp only [aa9] at h;cases h.1
  ·rename_i a l1 G1 cQ lG;obtain ⟨rfl,rfl⟩:=List.cons.inj lG;generalize h2:mF wk l _=q0 at h;obtain ⟨c',Y9,G2⟩:=q0;simp only [aa9] at h;obtain ⟨rfl,rfl,rfl⟩:=h;obtain ⟨R2,b1,b2,b3,b4,b5⟩:=sZ hg hr h2;exact ⟨R2,b1,.cons (h0.mono b3) b2,b3,b4,b5⟩
theorem vq {cut wk:Bool} {t:Tmp} {s':St} (h:bl E R w β s a) (hs:qi cut wk s t=some (true,s')):∃ R',bl E R' w β s' a∧Step R w β s.boxes R' w β s'.boxes∧s'.ro=s.ro:=by
 unfold qi at hs;split at hs
 ·rename_i id f off sz len ht;split at hs
  ·rename_i es bR el hid;split at hs
   ·rename_i cL;rw [aaB] at cL;have q1:=aaa cL.1;have q2:=aaa cL.2;subst q1; subst q2;injection hs with hs; injection hs with h1 h2;rw [aaB,aaB,decide_eq_true_eq] at h1;obtain ⟨⟨KT,E9⟩,jm⟩:=h1;have hle:len≤es.length:=by
     cases cut with
     |true=>exact of_decide_eq_true E9
     |false=>exact Nat.le_of_eq (of_decide_eq_true E9)
    have Kp:AT wk (bif cut then es.take len else es)=AT wk (es.take len):=by
     congr 1;cases cut with
     |true=>rfl
     |false=>
      have:len=es.length:=of_decide_eq_true E9;rw [this,List.take_length];rfl
    rw [Kp] at h2;subst h2;obtain ⟨c,k1,k2⟩:=h.t t (by rw [ht]; simp);rw [ht] at k2;obtain ⟨ro,b6⟩:∃ ro,nth R.obj id=some ro:=by
     have O1:Rel R w (.eu id f 0 sz len) c:=k2;cases O1 with
     |iV q _=>exact ⟨_,q⟩
     |eu q _ _=>exact ⟨_,q⟩
    obtain ⟨R',r1,r2,r3,r4,r5⟩:=nR h.g hid KT hle jm b6;have Va:∀ k cs,dy s.boxes k=some cs→¬ ro.has (β k):=fun k cs hk e=>(h.b.box k cs hk).2.2 ⟨id,ro,b6,e⟩
    refine ⟨R',⟨r1,?_,?_,h.n,h.d.mono r2⟩,⟨r2,rfl,rfl,rfl,aa6 _,fun _ _ _=>rfl,fun b hb ho=>?_,fun b o hi hb hn=>?_⟩,rfl⟩
    ·exact h.b.aW r2 (fun _ _ _=>rfl) (fun k cs o hk hi=>(r4 _ o hi).resolve_right (Va k cs hk)) (fun k cs hk hl=>by
      obtain ⟨i,r,l1,l2⟩:=hl;rw [r3] at l1;exact ⟨i,r,l1,l2⟩)
    ·intro i hi;by_cases e:t=i
     ·subst e;rw [ay];exact ⟨c,k1,r5 c k2⟩
     ·rw [aQ e] at hi ⊢;obtain ⟨c',l1,l2⟩:=h.t i hi;exact ⟨c',l1,l2.mono r2⟩
    ·rcases ho with ⟨i,r,l1,l2⟩|ho
     ·rw [r3] at l1;exact .inl ⟨i,r,l1,l2⟩
     ·exact .inr ho
    ·rcases r4 b o hi with hi|hi
     ·exact hi
     ·exact absurd (.inl ⟨id,ro,b6,hi⟩) hn
   ·cases hs
  ·cases hs
 ·-- an object's cells never change again
  rename_i id ht;split at hs
  ·rename_i cs el hid;injection hs with hs; injection hs with h1 h2;subst h2;obtain ⟨c,k1,k2⟩:=h.t t (by rw [ht]; simp);rw [ht] at k2;have O1:Rel R w (.ptr id 0) c:=k2;cases O1 with
   | @ptr _ _ b b6=>
   obtain ⟨vs,b1,b2,b3,b4⟩:=h.g.obj id _ _ hid b6;have r2:=qn R w b;have r1:=h.g.freeze b6 rfl (show gK (R.all b) w .dead (.ca b) from bi b1);have Va:∀ k cs,dy s.boxes k=some cs→β k≠b:=fun k cs hk e=>(h.b.box k cs hk).2.2 ⟨id,_,b6,by rw [e]; rfl⟩
   refine ⟨R.all b,⟨r1,?_,?_,h.n,h.d.mono r2⟩,⟨r2,rfl,rfl,rfl,aa6 _,fun _ _ _=>rfl,fun _ _ ho=>ho,fun b' o hi hb hn=>?_⟩,rfl⟩
   ·exact h.b.aW r2 (fun _ _ _=>rfl) (fun k cs o hk hi=>hi.resolve_right (Va k cs hk)) (fun _ _ _ hl=>hl)
   ·intro i hi;by_cases e:t=i
    ·subst e;rw [ay];refine ⟨_,k1,Rel.ep (dR.make (b2.mono r2) b3 (fun j v hv=>?_) (fun j _=>.inr rfl))⟩;rw [jw b1,Nat.zero_add];exact hv
    ·rw [aQ e] at hi ⊢;obtain ⟨c',l1,l2⟩:=h.t i hi;exact ⟨c',l1,l2.mono r2⟩
   ·rcases hi with hi|rfl
    ·exact hi
    ·exact absurd (.inl ⟨id,_,b6,rfl⟩) hn
  ·cases hs
 ·-- the parts of a value
  rename_i cs ht;cases h2:mF wk cs s.G with
  |mk c' q=>
  obtain ⟨cs',G'⟩:=q;rw [h2] at hs;injection hs with hs; injection hs with h3 hs;subst h3;subst hs;obtain ⟨c,k1,k2⟩:=h.t t (by rw [ht]; simp);rw [ht] at k2;have O1:Rel R w (.agg cs) c:=k2;cases O1 with
  | @agg _ vs k3 k4=>
  obtain ⟨R',r1,r2,r3,r4,r5⟩:=sZ h.g k3 h2;have live:∀ b,Live R' b→Live R b:=fun b ⟨i,r,q1,q2⟩=>⟨i,r,by rw [← r4]; exact q1,q2⟩
  refine ⟨R',⟨r1,?_,?_,h.n,h.d.mono r3⟩,⟨r3,rfl,rfl,rfl,aa6 _,fun _ _ _=>rfl,fun b hb ho=>?_,fun b o hi hb hn=>?_⟩,rfl⟩
  ·exact h.b.aW r3 (fun _ _ _=>rfl) (fun k cs o hk hi=>(r5 _ o hi).resolve_right (h.b.box k cs hk).2.2) (fun k cs hk hl=>live _ hl)
  ·intro i hi;by_cases e:t=i
   ·subst e;rw [ay];exact ⟨_,k1,Rel.agg r2 k4⟩
   ·rw [aQ e] at hi ⊢;obtain ⟨c',l1,l2⟩:=h.t i hi;exact ⟨c',l1,l2.mono r3⟩
  ·rcases ho with ho|ho
   ·exact .inl (live b ho)
   ·exact .inr ho
  ·rcases r5 b o hi with hi|hi
   ·exact hi
   ·exact absurd (.inl hi) hn
 ·cases hs
theorem il {cut wk:Bool}:∀ {l:List Operand} {R:ak} {s s':St},bl E R w β s a→gR cut wk l s=(true,s')→∃ R',bl E R' w β s' a∧Step R w β s.boxes R' w β s'.boxes∧s'.ro=s.ro
 |[],R,s,s',h,hs=>by
  simp only [gR] at hs;cases hs;exact ⟨R,h,Step.refl _ _ _ _,rfl⟩
 |.tmp t :: l,R,s,s',h,hs=>by
  unfold gR at hs;split at hs
  ·rename_i c s1 h1;cases h2:gR cut wk l s1 with
   |mk c' s2=>
   rw [h2] at hs;simp only [aa9,aaB] at hs;obtain ⟨⟨rfl,rfl⟩,rfl⟩:=hs;obtain ⟨R1,k1,k2,k3⟩:=vq h h1;obtain ⟨R2,l1,l2,l3⟩:=il k1 h2;exact ⟨R2,l1,k2.trans l2,l3.trans k3⟩
  ·exact il h hs
 |.const _ :: l,R,s,s',h,hs=>il (l:=l) h hs
 |.global _ :: l,R,s,s',h,hs=>il (l:=l) h hs
 |.func _ :: l,R,s,s',h,hs=>il (l:=l) h hs
theorem Le {f:FuncId} {s':St} (h:bl E R w β s a) (hs:IS E f s o=some (true,s')):∃ R',bl E R' w β s' a∧Step R w β s.boxes R' w β s'.boxes∧s'.ro=s.ro:=by
 unfold IS at hs;split at hs
 ·split at hs
  ·injection hs with hs;exact il h hs
  ·cases hs
 ·cases hs
end ops
end Go.Am
namespace Go.Am
open Go
structure aX (s s':St):Prop where
 sl:∃ pre,s'.ae=pre++s.ae
 bx:∃ pre,s'.boxes=pre++s.boxes
 n:s'.n=s.n
theorem aX.refl (s:St):aX s s:=⟨⟨[],rfl⟩,⟨[],rfl⟩,rfl⟩
theorem aX.trans {a b c:St} (h:aX a b) (k:aX b c):aX a c:=by
 obtain ⟨p,hp⟩:=h.sl; obtain ⟨q,hq⟩:=k.sl; obtain ⟨p',hp'⟩:=h.bx; obtain ⟨q',hq'⟩:=k.bx;exact ⟨⟨q++p,by rw [hq,hp,List.append_assoc]⟩,⟨q'++p',by rw [hq',hp',List.append_assoc]⟩,k.n.trans h.n⟩
section
variable {E:Env} {R R':ak} {w w':World} {β β':Nat→Nat} {s s':St} {a a':Act}
def hZ (R:ak):ak:=⟨R.I,R.obj++[.bO]⟩
theorem ko:Ext R w (hZ R) w:=⟨fun _ _ h=>h,fun _ _ _=>rfl,fun _ r h=>⟨r,dq h,cF.refl r⟩,gE.refl w⟩
theorem rP {b:Nat} (h:Live (hZ R) b):Live R b:=by
 obtain ⟨id,r,h1,h2⟩:=h;rcases ar h1 with h1|⟨_,rfl⟩
 ·exact ⟨id,r,h1,h2⟩
 ·simp [RO.has] at h2
def Vb (n sz:Nat):AV:=bif abP 65536 sz then .eu n 0 0 (sz - 65536) 0 else .list (.own n) sz []
def Lf (sz:Nat) (e:TypeId):GO:=bif abP 65536 sz then .dV [] (sz - 65536) e else .tok 0 sz e
theorem Pt (sz:Nat) (e:TypeId):gK R w (Lf sz e) .bO:=by
 unfold Lf;cases abP 65536 sz
 ·exact rfl
 ·exact rfl
theorem HO {n sz:Nat} (hn:nth R.obj n=some .bO):Rel R w (Vb n sz) (.slice none 0 0):=by
 unfold Vb;cases abP 65536 sz
 ·exact .mH hn trivial
 ·exact .iV hn trivial
theorem dB.HP {G:List GO} (h:dB E R w G) (sz:Nat) (e:TypeId):dB E (hZ R) w (G++[Lf sz e]):=by
 refine ⟨by simp [hZ,h.len],fun id g r h1 h2=>?_,fun i j ri rj b h1 h2 b1 b2=>?_,h.wf,fun g cs hg=>(h.ck g cs hg).mono ko,h.lo⟩
 ·rcases ar h2 with h2|⟨h3,rfl⟩
  ·rcases ar h1 with h1|⟨h4,_⟩
   ·exact (h.obj id g r h1 h2).mono ko (fun _ _=>rfl) (fun _ _ _ h=>h)
   ·have bZ:=b7 h2;rw [h.len] at bZ;omega
  ·rcases ar h1 with h1|⟨h4,rfl⟩
   ·have:=b7 h1;rw [h3,h.len] at this;omega
   ·exact Pt sz e
 ·rcases ar h1 with g1|⟨_,e1⟩
  ·rcases ar h2 with g2|⟨_,e2⟩
   ·exact h.inj i j ri rj b g1 g2 b1 b2
   ·rw [e2] at b2; simp [RO.has] at b2
  ·rw [e1] at b1; simp [RO.has] at b1
theorem bl.HP (h:bl E R w β s a) (sz:Nat) (e:TypeId):bl E (hZ R) w β (s.dQ (Lf sz e)) a∧Step R w β s.boxes (hZ R) w β s.boxes:=by
 refine ⟨⟨h.g.HP sz e,h.b.aW ko (fun _ _ _=>rfl) (fun _ _ _ _ h=>h) (fun _ _ _ hl=>rP hl),h.t.mono ko,h.n,h.d.mono (ko (w:=w))⟩,?_⟩;refine ⟨ko,rfl,rfl,rfl,aa6 _,fun _ _ _=>rfl,fun b _ ho=>?_,fun _ _ h _ _=>h⟩;rcases ho with ho|ho
 ·exact .inl (rP ho)
 ·exact .inr ho
inductive Loc
 |slot (t:Tmp)
 |box (k i:Nat)
 |row (id i:Nat)
def pu (s:St) (l:Loc) (sz:Nat) (e:TypeId):Option St:=
 let v:AV:=Vb s.G.length sz
 match abP 196608 sz with
 |true=>some (s.dQ (.bB [] (sz - 196608) e))
 |false=>match l with
 |.slot t=>match lk s.ae t with
  |.v (.list .nil _ [])=>some ⟨.put t (.v v) :: s.ae,s.boxes,s.G++[Lf sz e],s.marks,s.ro,s.n⟩
  |_=>none
 |.box k i=>match dy s.boxes k with
  |some cs=>match nth cs i with
   |some (.list .nil _ [])=>some ⟨s.ae,(k,aF cs i v) :: s.boxes,s.G++[Lf sz e],s.marks,s.ro,s.n⟩
   |_=>none
  |none=>none
 |.row id i=>match nth s.G id with
  |some (.row cs el)=>match nth cs i with
   |some (.list .nil _ [])=>some ⟨s.ae,s.boxes,aF s.G id (.row (aF cs i v) el)++[Lf sz e],s.marks,s.ro,s.n⟩
   |_=>none
  |_=>none
def ia:List (Loc × Nat × TypeId)→St→Option St
 |[],s=>some s
 |(l,sz,e) :: r,s=>match pu s l sz e with
  |some s'=>ia r s'
  |none=>none
theorem aK.aF {l:List AV} {cs:List Value} (h:aK R w l cs) {i:Nat} {x y:AV} (hx:nth l i=some x) (hw:∀ c,Rel R w x c→Rel R w y c):aK R w (Am.aF l i y) cs:=by
 induction l generalizing cs i with
 |nil=>simp [nth] at hx
 |cons a l ih=>
  cases h with
  |cons h t=>
   cases i with
   |zero=>simp only [nth] at hx; cases hx; exact .cons (hw _ h) t
   |succ i=>exact .cons h (ih t hx)
theorem bl.Vc (h:bl E R w β s a) (sz:Nat) (e:TypeId):bl E (R.add (.bB [])) w β (s.dQ (.bB [] sz e)) a∧Step R w β s.boxes (R.add (.bB [])) w β s.boxes:=by
 have no:∀ b,¬ RO.has (.bB []) b:=fun b ⟨j,f,c,hj⟩=>by simp [nth] at hj
 have ext:Ext R w (R.add (.bB [])) w:=⟨fun _ _ h=>h,fun _ _ _=>rfl,fun _ r h=>⟨r,dq h,cF.refl r⟩,gE.refl w⟩;have live:∀ b,Live (R.add (.bB [])) b→Live R b:=fun b ⟨id,r,h1,h2⟩=>by
  rcases ar h1 with h1|⟨_,rfl⟩
  ·exact ⟨id,r,h1,h2⟩
  ·exact absurd h2 (no b)
 refine ⟨⟨⟨by simp [St.dQ,ak.add,h.g.len],fun id g r h1 h2=>?_,fun i j ri rj b h1 h2 b1 b2=>?_,h.g.wf,fun g cs hg=>(h.g.ck g cs hg).mono ext,h.g.lo⟩,h.b.aW ext (fun _ _ _=>rfl) (fun _ _ _ _ h=>h) (fun _ _ _ hl=>live _ hl),h.t.mono ext,h.n,h.d.mono ext⟩,?_⟩
 ·rcases ar h2 with h2|⟨h3,rfl⟩
  ·rcases ar h1 with h1|⟨h4,_⟩
   ·exact (h.g.obj id g r h1 h2).mono ext (fun _ _=>rfl) (fun _ _ _ h=>h)
   ·have bZ:=b7 h2;rw [h.g.len] at bZ;omega
  ·rcases ar h1 with h1|⟨h4,rfl⟩
   ·have:=b7 h1;rw [h3,h.g.len] at this;omega
   ·exact ⟨rfl,fun i j f b c f' c' hi=>by simp [nth] at hi,fun j f t hj=>by simp [nth] at hj⟩
 ·rcases ar h1 with g1|⟨_,e1⟩
  ·rcases ar h2 with g2|⟨_,e2⟩
   ·exact h.g.inj i j ri rj b g1 g2 b1 b2
   ·rw [e2] at b2; exact absurd b2 (no b)
  ·rw [e1] at b1; exact absurd b1 (no b)
 ·refine ⟨ext,rfl,rfl,rfl,aa6 _,fun _ _ _=>rfl,fun b _ ho=>?_,fun _ _ h _ _=>h⟩;rcases ho with ho|ho
  ·exact .inl (live b ho)
  ·exact .inr ho
theorem DC {l:Loc} {sz:Nat} {e:TypeId} (h:bl E R w β s a) (FZ:abP 196608 sz=false) (hs:pu s l sz e=some s'):bl E (hZ R) w β s' a∧Step R w β s.boxes (hZ R) w β s'.boxes∧s'.ro=s.ro∧aX s s':=by
 obtain ⟨h1,h2⟩:=h.HP sz e;have hn:nth (hZ R).obj s.G.length=some .bO:=by
  rw [← h.g.len]; exact eM _ _
 have hw:∀ (bR:Nat) (c:Value),Rel (hZ R) w (.list .nil bR []) c→Rel (hZ R) w (Vb s.G.length sz) c:=fun bR c hc=>by
  cases hc with
  |kz=>exact HO hn
  |list _ _ _ hk=>exact hk.elim
 unfold pu at hs;rw [FZ] at hs;cases l with
 |slot t=>
  simp only at hs;split at hs
  ·rename_i bR ht;cases hs;refine ⟨⟨h1.g,h1.b,fun i hi=>?_,h1.n,h1.d⟩,h2,rfl,⟨⟨[_],rfl⟩,⟨[],rfl⟩,rfl⟩⟩;by_cases e:t=i
   ·subst e;rw [ay];obtain ⟨c,k1,k2⟩:=h1.t t (by show lk s.ae t≠_; rw [ht]; simp);have O1:qQ (hZ R) w β (lk s.ae t) c:=k2;rw [ht] at O1;exact ⟨c,k1,hw _ _ O1⟩
   ·rw [aQ e] at hi ⊢;exact h1.t i hi
  ·cases hs
 |box k i=>
  simp only at hs;split at hs
  ·rename_i cs hk;split at hs
   ·rename_i bR hi;cases hs;have hb:∀ k' cs',dy ((k,aF cs i (Vb s.G.length sz)) :: s.boxes) k'=some cs'→∃ Za,dy s.boxes k'=some Za:=fun k' cs' iG=>by
     rcases eN iG with ⟨rfl,_⟩|⟨_,iG⟩
     ·exact ⟨cs,hk⟩
     ·exact ⟨cs',iG⟩
    refine ⟨⟨h1.g,⟨fun k' cs' iG=>?_,fun k1 k2 c1 c2 e1 e2 he=>?_⟩,h1.t,h1.n,h1.d⟩,?_,rfl,⟨⟨[],rfl⟩,⟨[_],rfl⟩,rfl⟩⟩
    ·rcases eN iG with ⟨rfl,rfl⟩|⟨_,iG⟩
     ·obtain ⟨⟨vs,el,q1,q2,q3⟩,q4⟩:=h1.b.box k cs hk;exact ⟨⟨vs,el,q1,q2.aF hi (hw _),q3⟩,q4⟩
     ·exact h1.b.box k' cs' iG
    ·obtain ⟨d1,Jd⟩:=hb k1 c1 e1;obtain ⟨d2,Zb⟩:=hb k2 c2 e2;exact h.b.inj k1 k2 d1 d2 Jd Zb he
    ·refine ⟨h2.ext,rfl,rfl,rfl,aa6 _,fun _ _ _=>rfl,fun b gL ho=>?_,fun _ _ h _ _=>h⟩;rcases ho with ho|⟨k',cs',iG,rfl⟩
     ·exact .inl (rP ho)
     ·obtain ⟨d1,Jd⟩:=hb k' cs' iG;exact .inr ⟨k',d1,Jd,rfl⟩
   ·cases hs
  ·cases hs
 |row id i=>
  simp only at hs;split at hs
  ·rename_i cs el hid;split at hs
   ·rename_i bR hi;cases hs;refine ⟨⟨⟨by have:=h1.g.len; simpa [St.dQ] using this,fun jL go ro q1 q2=>?_,h1.g.inj,h1.g.wf,h1.g.ck,h1.g.lo⟩,h1.b,h1.t,h1.n,h1.d⟩,h2,rfl,⟨⟨[],rfl⟩,⟨[],rfl⟩,rfl⟩⟩;rcases ar q1 with q1|⟨q3,rfl⟩
    ·rcases dp q1 with ⟨rfl,rfl,_⟩|⟨cQ,q1⟩
     ·have cR:=h1.g.obj id (.row cs el) ro (dq hid) q2;cases ro with
      |ca b=>
       obtain ⟨vs,k1,k2,k3,k4⟩:=cR;exact ⟨vs,k1,k2.aF hi (hw _),k3,k4⟩
      |none=>exact cR.elim
      |bO=>exact cR.elim
      |tok _ _ _=>exact cR.elim
      |bB _=>exact cR.elim
     ·exact h1.g.obj jL go ro (dq q1) q2
    ·refine h1.g.obj jL _ ro ?_ q2;rw [ik] at q3;rw [q3];exact eM _ _
   ·cases hs
  ·cases hs
theorem xT {l:Loc} {sz:Nat} {e:TypeId} (h:bl E R w β s a) (hs:pu s l sz e=some s'):∃ R',bl E R' w β s' a∧Step R w β s.boxes R' w β s'.boxes∧s'.ro=s.ro∧aX s s':=by
 cases FZ:abP 196608 sz with
 |true=>
  unfold pu at hs;rw [FZ] at hs;cases hs;obtain ⟨h1,h2⟩:=h.Vc (sz - 196608) e;exact ⟨_,h1,h2,rfl,⟨⟨[],rfl⟩,⟨[],rfl⟩,rfl⟩⟩
 |false=>exact ⟨_,DC h FZ hs⟩
theorem kD:∀ {l:List (Loc × Nat × TypeId)} {R:ak} {s s':St},bl E R w β s a→ia l s=some s'→∃ R',bl E R' w β s' a∧Step R w β s.boxes R' w β s'.boxes∧s'.ro=s.ro∧aX s s'
 |[],R,s,s',h,hs=>by
  simp only [ia] at hs;cases hs;exact ⟨R,h,Step.refl _ _ _ _,rfl,aX.refl _⟩
 |(l,sz,e) :: r,R,s,s',h,hs=>by
  unfold ia at hs;split at hs
  ·rename_i s1 h1;obtain ⟨R0,g1,g2,g3,g4⟩:=xT h h1;obtain ⟨R',k1,k2,k3,k4⟩:=kD g1 hs;exact ⟨R',k1,g2.trans k2,k3.trans g3,g4.trans k4⟩
  ·cases hs
def Vd (s:St) (d:Tmp):List (Option Nat × Nat × TypeId)→Option (List (Loc × Nat × TypeId))
 |[]=>some []
 |(none,sz,e) :: l=>match Vd s d l with
  |some r=>some ((.slot d,65536+sz,e) :: r)
  |none=>none
 |(some c,sz,e) :: l=>match Vd s d l,lk s.ae d with
  |some r,.lp k off=>some ((.box k (off+c),65536+sz,e) :: r)
  |some r,.v (.ptr id off)=>some ((.row id (off+c),65536+sz,e) :: r)
  |_,_=>none
def jn:List (Loc × Nat × TypeId)→St→St
 |[],s=>s
 |(l,sz,e) :: r,s=>match pu s l sz e with
  |some s'=>jn r s'
  |none=>jn r s
theorem pw:∀ {l:List (Loc × Nat × TypeId)} {R:ak} {s:St},bl E R w β s a→∃ R',bl E R' w β (jn l s) a∧Step R w β s.boxes R' w β (jn l s).boxes∧(jn l s).ro=s.ro∧aX s (jn l s)
 |[],R,s,h=>⟨R,h,Step.refl _ _ _ _,rfl,aX.refl _⟩
 |(l,sz,e) :: r,R,s,h=>by
  unfold jn;split
  ·rename_i s1 h1;obtain ⟨R0,g1,g2,g3,g4⟩:=xT h h1;obtain ⟨R',k1,k2,k3,k4⟩:=pw (l:=r) g1;exact ⟨R',k1,g2.trans k2,k3.trans g3,g4.trans k4⟩
  ·exact pw (l:=r) h
def Bb (E:Env) (f:FuncId) (o:Oper) (s:St):Option St:=match o.dst with
 |none=>some s
 |some d=>match E.BQ f (d+327680) with
  |true=>match qi false (E.BQ f (d+458752)) s d with
   |some (true,s')=>some s'
   |_=>none
  |false=>match E.gho f d with
   |[]=>some s
   |x :: l=>match Vd s d (x :: l) with
    |some r=>some (jn r s)
    |none=>none
theorem px {cut wk:Bool} {s s':St} {t:Tmp} {c:Bool} (h:qi cut wk s t=some (c,s')):aX s s':=by
 unfold qi at h
 repeat' (split at h)
 all_goals (first|(cases h; done) | skip)
 all_goals (injection h with h; injection h with _ h; subst h; exact ⟨⟨[_],rfl⟩,⟨[],rfl⟩,rfl⟩)
theorem Je {f:FuncId} {o:Oper} (h:bl E R w β s a) (hs:Bb E f o s=some s'):∃ R',bl E R' w β s' a∧Step R w β s.boxes R' w β s'.boxes∧s'.ro=s.ro∧aX s s':=by
 unfold Bb at hs;split at hs
 ·cases hs;exact ⟨R,h,Step.refl _ _ _ _,rfl,aX.refl _⟩
 ·split at hs
  ·split at hs
   ·rename_i s2 hz;cases hs;obtain ⟨R',r1,r2,r3⟩:=vq h hz;exact ⟨R',r1,r2,r3,px hz⟩
   ·cases hs
  ·split at hs
   ·cases hs;exact ⟨R,h,Step.refl _ _ _ _,rfl,aX.refl _⟩
   ·split at hs
    ·cases hs;exact pw h
    ·cases hs
end
end Go.Am
namespace Go.Am
open Go
def bV (R:ak) (ro:Option Nat) (F:Fence):Prop:=match ro with
 |none=>F=aaH
 |some id=>∃ b,nth R.obj id=some (.ca b)∧F=aaH.inRound b
theorem bV.mono {R R':ak} {w w':World} (e:Ext R w R' w') {ro:Option Nat} {F:Fence} (h:bV R ro F):bV R' ro F:=by
 cases ro with
 |none=>exact h
 |some id=>obtain ⟨b,h1,h2⟩:=h; exact ⟨b,e.ca h1,h2⟩
theorem bV.fn {R:ak} {ro:Option Nat} {F:Fence} (h:bV R ro F) (f:FuncId):F.fn f:=by
 cases ro with
 |none=>rw [show F=aaH from h]; trivial
 |some id=>obtain ⟨b,_,h2⟩:=h; rw [h2]; trivial
theorem bV.depth {R:ak} {ro:Option Nat} {F:Fence} (h:bV R ro F):F.depth=none:=by
 cases ro with
 |none=>rw [show F=aaH from h]; rfl
 |some id=>obtain ⟨b,_,h2⟩:=h; rw [h2]; rfl
theorem bV.calls {R:ak} {ro:Option Nat} {F:Fence} (h:bV R ro F) {n:Nat} {P:Program} {f:FuncId} {args:Array Value} {w:World} {Q:Ending→World→Prop} (hc:CallsIn aaH n P f args w Q):CallsIn F n P f args w Q:=by
 cases ro with
 |none=>rw [show F=aaH from h]; exact hc
 |some id=>obtain ⟨b,_,h2⟩:=h; rw [h2]; exact hc
def Zc (E:Env) (R:ak) (w:World) (β:Nat→Nat) (s:St) (Q:Exit→St→Prop):Exit→Act→World→Prop:=
 fun e a' w'=>∃ s' R' β',Q e s'∧bl E R' w' β' s' a'∧Step R w β s.boxes R' w' β' s'.boxes∧s'.ro=s.ro
def fU (E:Env) (c:Code) (Q:Exit→St→Prop) (s:St):Prop:=
 ∀ (R:ak) (w:World) (β:Nat→Nat) (a:Act) (F:Fence),bl E R w β s a→bV R s.ro F→c.wpIn F 0 E.P (Zc E R w β s Q) a w
theorem fU.mono {E:Env} {c:Code} {Q Q':Exit→St→Prop} {s:St} (h:fU E c Q s) (hq:∀ e s,Q e s→Q' e s):fU E c Q' s:=
 fun R w β a F hr hf=>wpIn_mono (h R w β a F hr hf) fun e _ _ ⟨s',R',β',h1,h2⟩=>⟨s',R',β',hq e s' h1,h2⟩
section rules
variable {E:Env} {Q:Exit→St→Prop} {s:St}
theorem fU.skip (h:Q .normal s):fU E .skip Q s:=fun _ _ _ _ _ hr _=>wpIn_skip ⟨s,_,_,h,hr,Step.refl _ _ _ _,rfl⟩
theorem fU.label {l:Nat} (h:Q .normal s):fU E (.label l) Q s:=fun _ _ _ _ _ hr _=>wpIn_label ⟨s,_,_,h,hr,Step.refl _ _ _ _,rfl⟩
theorem fU.exit {id:Nat} (h:Q (.exit id) s):fU E (.exit id) Q s:=fun _ _ _ _ _ hr _=>wpIn_exit ⟨s,_,_,h,hr,Step.refl _ _ _ _,rfl⟩
theorem fU.ret (h:Q .ret s):fU E .ret Q s:=fun _ _ _ _ _ hr _=>wpIn_ret ⟨s,_,_,h,hr,Step.refl _ _ _ _,rfl⟩
def vr (N:St→Prop) (Q:Exit→St→Prop):Exit→St→Prop
 |.normal,s=>N s
 |e,s=>Q e s
theorem fU.seq {x y:Code} (h:fU E x (vr (fU E y Q) Q) s):fU E (.seq x y) Q s:=fun R w β a F hr hf=>by
 refine wpIn_seq (wpIn_mono (h R w β a F hr hf) ?_);rintro e a' w' ⟨s',R',β',hq,mh,lu,b6⟩;cases e with
 |normal=>
  refine wpIn_mono (hq R' w' β' a' F mh (by rw [b6]; exact hf.mono lu.ext)) ?_;rintro e a'' TC ⟨Dl,Pf,X4,Ve,Ca,vt,Bc⟩;exact ⟨Dl,Pf,X4,Ve,Ca,lu.trans vt,Bc.trans b6⟩
 |_=>exact ⟨s',R',β',hq,mh,lu,b6⟩
theorem fU.cond {c:Operand} {x y:Code} {b:Bool} (hc:bJ E s.ae c=.v (.bool b)) (h1:b=true→fU E x Q s) (h2:b=false→fU E y Q s):fU E (.cond c x y) Q s:=fun R w β a F hr hf=>by
 have rc:=aT hr c;rw [hc] at rc;have hb:a.eval c=.bool b:=by
  have rc':Rel R w (.bool b) (a.eval c):=rc;generalize a.eval c=v at rc';cases rc';rfl
 exact wpIn_cond_split hb (fun e=>h1 e R w β a F hr hf) (fun e=>h2 e R w β a F hr hf)
def Vf (id:Nat) (Q:Exit→St→Prop):Exit→St→Prop
 |.exit jL,s=>(jL=id→Q .normal s)∧(jL≠id→Q (.exit jL) s)
 |e,s=>Q e s
theorem fU.block {id:Nat} {c:Code} (h:fU E c (Vf id Q) s):fU E (.block id c) Q s:=fun R w β a F hr hf=>by
 refine wpIn_block (wpIn_mono (h R w β a F hr hf) ?_);rintro e a' w' ⟨s',R',β',hq,rest⟩;cases e with
 |exit jL=>
  by_cases e:jL=id
  ·simp only [Exit.inBlock,e,if_true];exact ⟨s',R',β',hq.1 e,rest⟩
  ·simp only [Exit.inBlock,e,if_false];exact ⟨s',R',β',hq.2 e,rest⟩
 |_=>exact ⟨s',R',β',hq,rest⟩
theorem nS {F:Fence} {n:Nat} {P:Program} {Q:Exit→Act→World→Prop} {c:Code} (I:Nat→Act→World→Prop)
  (round:∀ m a w,I m a w→c.wpIn F n P (Exit.then (fun a' w'=>∃ m',m' < m∧I m' a' w') Q) a w):∀ {m:Nat} {a:Act} {w:World},I m a w→(Code.loop c).wpIn F n P Q a w:=by
 intro m a w h₀ b k cs b6 hb hr;have key:∀ j a w,I j a w →
   ∃ e a' w',Q e a' w'∧ArrivesIn (Machine.fenced P F) P (lone (b.atR a (.code c :: .inLoop c :: k)) cs w) b k cs e a' w':=by
  intro j
  induction j using Nat.strongRecOn with
  |_ j ih=>
   intro a w hI;obtain ⟨e,a₁,w₁,hq,rQ⟩:=round j a w hI b (.inLoop c :: k) cs b6 hb hr;cases e with
   |normal=>
    obtain ⟨m',bZ,hI₁⟩:=hq;obtain ⟨e₂,a₂,w₂,hq₂,Zd⟩:=ih m' bZ a₁ w₁ hI₁;exact ⟨e₂,a₂,w₂,hq₂,.of_steps (StepsIn.trans rQ (.one (fenced_calm hb hr rfl) stepR_inLoop)) Zd⟩
   |exit id=>exact ⟨_,a₁,w₁,hq,.pass (x:=.inLoop c) rfl (fun _ _=>.inl (by simp)) rQ⟩
   |goto l=>exact ⟨_,a₁,w₁,hq,.pass (x:=.inLoop c) rfl (fun _ _=>.inl (by simp)) rQ⟩
   |ret=>exact ⟨_,a₁,w₁,hq,.pass (x:=.inLoop c) rfl (fun _ _=>.inl (by simp)) rQ⟩
   |panic ch=>exact ⟨_,a₁,w₁,hq,.pass (x:=.inLoop c) rfl (fun _ _=>.inl (by simp)) rQ⟩
   |outgrown=>exact ⟨_,a₁,w₁,hq,.pass (x:=.inLoop c) rfl (fun _ _=>.inl (by simp)) rQ⟩
 obtain ⟨e,a',w',hq,rQ⟩:=key _ a w h₀;exact ⟨e,a',w',hq,.of_steps (.one (fenced_calm hb hr rfl) stepR_loop) rQ⟩
theorem fU.loop {c:Code} (I:Nat→St→Prop) (round:∀ m s,I m s→fU E c (vr (fun s'=>∃ m',m' < m∧I m' s') Q) s) {m:Nat} (h:I m s):fU E (.loop c) Q s:=fun R w β a F hr hf=>by
 refine nS (fun m a' w'=>∃ s' R' β',I m s'∧bl E R' w' β' s' a'∧Step R w β s.boxes R' w' β' s'.boxes∧s'.ro=s.ro) ?_ ⟨s,R,β,h,hr,Step.refl _ _ _ _,rfl⟩;rintro m a' w' ⟨s',R',β',hI,mh,lu,b6⟩;refine wpIn_mono (round m s' hI R' w' β' a' F mh (by rw [b6]; exact hf.mono lu.ext)) ?_;rintro e a'' TC ⟨Dl,Pf,X4,hq,Ca,vt,Bc⟩;cases e with
 |normal=>
  obtain ⟨m',bZ,hI'⟩:=hq;exact ⟨m',bZ,Dl,Pf,X4,hI',Ca,lu.trans vt,Bc.trans b6⟩
 |_=>exact ⟨Dl,Pf,X4,hq,Ca,lu.trans vt,Bc.trans b6⟩
end rules
def noGoto (Q:Exit→Act→World→Prop):Exit→Act→World→Prop
 |.goto _,_,_=>False
 |e,a,w=>Q e a w
section scopes
variable {P:Program} {b:Frame} {a:Act} {k:List Item} {cs:List Frame} {w:World} {Q:Exit→Act→World→Prop} {F:Fence} {n:Nat}
theorem iq {c:Code}:step P (lone (b.atR a (.code (.scope c) :: k)) cs w)=.next (lone (b.atR a (.code c :: .inScope c :: k)) cs w):=
 step_lone_go (by simp [stepG,stepG.exec,Frame.atR])
theorem Aq {c:Code}:step P (lone (b.atR a (.inScope c :: k)) cs w)=.next (lone (b.atR a k) cs w):=
 step_lone_go (by simp [stepG,stepG.exec,Frame.atR])
theorem F0 {c:Code} (h:c.wpIn F n P (noGoto Q) a w):(Code.scope c).wpIn F n P Q a w:=by
 intro b k cs b6 hb hr;have h0:(lone (b.atR a (.code (.scope c) :: k)) cs w).fenced P F:=fenced_calm hb hr rfl;obtain ⟨e,a₁,w₁,hq,rQ⟩:=h b (.inScope c :: k) cs b6 hb hr;cases e with
 |normal=>exact ⟨.normal,a₁,w₁,hq,.head h0 iq (StepsIn.trans rQ (.one (fenced_calm hb hr rfl) Aq))⟩
 |exit id=>
  have hx:exitTo id (.inScope c :: k)=exitTo id k:=by simp [exitTo]
  exact ⟨.exit id,a₁,w₁,hq,fun k' hk=>.head h0 iq (rQ.1 k' (by rw [hx]; exact hk)),
    fun mh hk=>let ⟨k₁,h1,h2⟩:=rQ.2 mh (by rw [hx]; exact hk); ⟨k₁,h1,.head h0 iq h2⟩⟩
 |goto l=>exact hq.elim
 |ret=>exact ⟨_,a₁,w₁,hq,.of_steps (.one h0 iq) rQ⟩
 |panic ch=>exact ⟨_,a₁,w₁,hq,.of_steps (.one h0 iq) rQ⟩
 |outgrown=>exact ⟨_,a₁,w₁,hq,.of_steps (.one h0 iq) rQ⟩
end scopes
def Vg (Q:Exit→St→Prop):Exit→St→Prop
 |.goto _,_=>False
 |e,s=>Q e s
theorem fU.scope {E:Env} {c:Code} {Q:Exit→St→Prop} {s:St} (h:fU E c (Vg Q) s):fU E (.scope c) Q s:=fun R w β a F hr hf=>by
 refine F0 (wpIn_mono (h R w β a F hr hf) ?_);rintro e a' w' ⟨s',R',β',hq,rest⟩;cases e with
 |goto l=>exact hq.elim
 |_=>exact ⟨s',R',β',hq,rest⟩
def fq:cO:=[]
def HQ (E:Env) (R:ak) (w:World) (Q:AV→List GO→Prop):Ending→World→Prop
 |.returned c,w'=>∃ r G' R',Q r G'∧Rel R' w' r c∧dB E R' w' G'∧Step R w (fun _=>0) fq R' w' (fun _=>0) fq
 |_,_=>False
def Cb (E:Env) (R:ak) (w:World) (Q:Bool→List GO→Prop):Ending→World→Prop
 |.returned c,w'=>∃ r G' R',Q r G'∧c=.bool r∧dB E R' w' G'∧Step R w (fun _=>0) fq R' w' (fun _=>0) fq
 |_,_=>False
def kE (E:Env) (id:Nat) (args:List AV) (G:List GO) (Q:Bool→List GO→Prop):Prop:=
 ∀ (R:ak) (w:World) (cs:List Value) (b:Nat),dB E R w G→aK R w args cs→nth R.obj id=some (.ca b) →
  ∃ r:Loop,w.heap[b]?=some (.loop r)∧cs.length=r.params.size ∧
   RoundIn aaH 0 E.P b r.fn ((r.params.zip ⟨cs⟩).foldl (fun tmps (t,a)=>tmps.setIfInBounds t a) r.tmps) r.assign r.body w (Cb E R w Q)
theorem kE.mono {E:Env} {id:Nat} {args:List AV} {G:List GO} {Q Q':Bool→List GO→Prop} (h:kE E id args G Q) (hq:∀ r G',Q r G'→Q' r G'):kE E id args G Q':=
 fun R w cs b hg hl hb=>by
  obtain ⟨r,h1,h2,h3⟩:=h R w cs b hg hl hb;refine ⟨r,h1,h2,h3.mono fun e w' he=>?_⟩;cases e with
  |returned c=>obtain ⟨r,G',R',k1,k2⟩:=he; exact ⟨r,G',R',hq _ _ k1,k2⟩
  |_=>exact he
def Plain (P : Program) (g : FuncId) : Prop := ∃ fn, P.funcs[g]? = some fn ∧ fn.body.isNone = false ∧ (fn.name == "runtime.NumGoroutine") = false
def cB (E:Env) (g:FuncId) (args:List AV) (G:List GO) (Q:AV→List GO→Prop):Prop:=
 Plain E.P g∧∀ (R:ak) (w:World) (cs:List Value),dB E R w G→aK R w args cs→CallsIn aaH 0 E.P g ⟨cs⟩ w (HQ E R w Q)
theorem cB.mono {E:Env} {g:FuncId} {args:List AV} {G:List GO} {Q Q':AV→List GO→Prop} (h:cB E g args G Q) (hq:∀ r G',Q r G'→Q' r G'):cB E g args G Q':=
 ⟨h.1,fun R w cs hg hl=>(h.2 R w cs hg hl).mono fun e _ he=>by
  cases e with
  |returned c=>obtain ⟨r,G',R',h1,h2⟩:=he; exact ⟨r,G',R',hq _ _ h1,h2⟩
  |_=>exact he⟩
theorem eP {R:ak} {β:Nat→Nat} {b:Nat} (h:Own R β fq b):Live R b:=by
 rcases h with h|⟨k,cs,hk,_⟩
 ·exact h
 ·simp [fq,dy] at hk
section calls
variable {E:Env} {R R':ak} {w w':World} {β:Nat→Nat} {s:St} {a:Act} {o:Oper}
theorem bl.uv (h:bl E R w β s a) {G':List GO} (hg:dB E R' w' G') (st:Step R w (fun _=>0) fq R' w' (fun _=>0) fq) :
  bl E R' w' β (s.cD G') a∧Step R w β s.boxes R' w' β s.boxes:=by
 have FJ:∀ k cs,dy s.boxes k=some cs→β k < w.heap.size∧¬ Live R (β k):=fun k cs hk=>⟨h.eh (.inr ⟨k,cs,hk,rfl⟩),(h.b.box k cs hk).2.2⟩
 have live:∀ b,b < w.heap.size→Live R' b→Live R b:=fun b hb hl=>eP (st.own b hb (.inl hl))
 refine ⟨⟨hg,h.b.aW st.ext (fun k cs hk=>?_) (fun k cs o hk hi=>?_) (fun k cs hk hl=>live _ (FJ k cs hk).1 hl),h.t.mono st.ext,h.n,h.d.mono st.ext⟩,?_⟩
 ·obtain ⟨h1,h2⟩:=FJ k cs hk;exact st.aW _ h1 (fun ho=>h2 (eP ho))
 ·obtain ⟨h1,h2⟩:=FJ k cs hk;exact st.im _ o hi h1 (fun ho=>h2 (eP ho))
 ·refine ⟨st.ext,st.os,st.tape,st.output,st.size,fun b hb hn=>st.aW b hb (fun ho=>hn (.inl (eP ho))),fun b hb ho=>?_,fun b o hi hb hn=>st.im b o hi hb (fun ho=>hn (.inl (eP ho)))⟩;rcases ho with ho|ho
  ·exact .inl (live b hb ho)
  ·exact .inr ho
theorem nT {P:Program} {g:FuncId} (h:Plain P g) (args:Array Value) (w:World):(callFunc g args).run P w=.ok (.enter g args) w:=by
 obtain ⟨fn,h1,h2,h3⟩:=h;unfold callFunc;simp only [aaM,run_program,aaC,h1,h2,h3,Bool.false_eq_true,if_false,aaZ]
def py (E:Env) (R:ak) (w:World) (β:Nat→Nat) (s:St) (K:St→Prop) (a':Act) (w':World):Prop:=
 ∃ s' R' β',K s'∧bl E R' w' β' s' a'∧Step R w β s.boxes R' w' β' s'.boxes∧s'.ro=s.ro
@[simp] theorem iJ (s:St) (d:Option Tmp) (x:SV):(s.put d x).ro=s.ro:=by
 cases d with
 |none=>rfl
 |some d=>
  simp only [St.put];split <;> rfl
theorem Lg {f:FuncId} {c:Bool} {s':St} (h:ij E f s o=some (c,s')):s'.ro=s.ro:=by
 unfold ij at h;cases h
theorem Jf {f:FuncId} {c:Bool} {s':St} (h:an E f s o=some (c,s')):s'.ro=s.ro:=by
 have alloc:∀ {el:TypeId} {cs:List AV} {c:Bool} {s':St},fb E f s o.dst el cs=some (c,s')→s'.ro=s.ro:=by
  intro el cs c s' h;unfold fb at h
  repeat' (split at h)
  all_goals (first|(cases h; done) | skip)
  all_goals (injection h with h; injection h with _ h; subst h; simp [St.dQ,St.vV,St.kill])
 have store:∀ {t:TypeId} {p x:SV} {s':St},jN E s t p x=some s'→s'.ro=s.ro:=by
  intro t p x s' h;unfold jN at h
  repeat' (split at h)
  all_goals (first|(cases h; done) | skip)
  all_goals (injection h with h; subst h; rfl)
 have F1:∀ {t:TypeId} {p x:SV} {c:Bool} {s':St},jO E s t p x=some (c,s')→s'.ro=s.ro:=by
  intro t p x c s' h;unfold jO at h
  repeat' (split at h)
  all_goals (first|(cases h; done) | skip)
  all_goals (injection h with h; injection h with _ h; subst h)
  all_goals (first|rfl | exact store (by assumption))
 have blt:∀ {b:Builtin} {l:List AV} {tys:List TypeId} {c:Bool} {s':St},bT E s o.dst b l tys=some (c,s')→s'.ro=s.ro:=by
  intro b l tys c s' h;unfold bT at h
  repeat' (split at h)
  all_goals (first|(cases h; done) | skip)
  all_goals (injection h with h; injection h with _ h; subst h; simp [St.cD])
 have update:∀ {t:TypeId} {m k x:SV} {s':St},fc E s t m k x=some s'→s'.ro=s.ro:=by
  intro t m k x s' h;unfold fc at h
  repeat' (split at h)
  all_goals (first|(cases h; done) | skip)
  all_goals (injection h with h; subst h; rfl)
 have next:∀ {x:SV} {s':St},lF s o.dst x=some s'→s'.ro=s.ro:=by
  intro x s' h;unfold lF at h;split at h
  ·split at h
   ·rename_i l pos hg;cases hb:Nat.blt pos l.length <;> rw [hb] at h <;> simp only [cond_true,cond_false] at h <;> cases h <;> simp [St.cD]
   ·cases h
  ·cases h
 have F2:∀ {t:TypeId} {m k:SV} {c:Bool} {v:AV} {s':St},gk E s t m k=some (c,v,s')→s'.ro=s.ro:=by
  intro t m k c v s' h;unfold gk at h
  repeat' (split at h)
  all_goals (first|(cases h; done) | skip)
  all_goals (injection h with h; injection h with _ h; injection h with _ h; subst h; rfl)
 have F4:∀ {m st x:SV} {c:Bool} {s':St},eC s m st x=some (c,s')→s'.ro=s.ro:=by
  intro m st x c s' h;unfold eC at h
  repeat' (split at h)
  all_goals (first|(cases h; done) | skip)
  all_goals (injection h with h; injection h with _ h; subst h; rfl)
 unfold an at h
 repeat' (split at h)
 all_goals (first|(cases h; done) | exact alloc h | exact blt h | (rename_i hf; cases h; exact Lg hf) | skip)
 all_goals (injection h with h; injection h with _ h; subst h)
 all_goals (first|(simp; done) | (simp [St.dQ]; done) | skip)
 all_goals (first|exact F1 (by assumption) | exact update (by assumption) | exact (iJ _ _ _).trans (F2 (by assumption)) | exact F4 (by assumption) | exact next (by assumption))
theorem DD {f:FuncId} {F:Fence} {s':St} {K:St→Prop} {Qc:Exit→Act→World→Prop} (h:bl E R w β s a) (hf:bV R s.ro F) (hs:an E f s o=some (true,s')) (hK:K s')
  (nd:∀ c,o.op≠.defer c) (N:Act→World→Prop) (hN:∀ a' w',py E R w β s K a' w'→N a' w'):o.wpIn F 0 E.P a w N Qc:=by
 obtain ⟨nx,x,w',R',β',h1,h2,h3,h4⟩:=DA h hs;refine ⟨fun f _=>hf.fn f,?_⟩;rw [aaY _ _ _ nd,h1];have:N (a.put o.dst x) w':=hN _ _ ⟨s',R',β',hK,h3,h4,Jf hs⟩;rcases h2 with rfl|⟨rfl,rfl⟩
 ·exact this
 ·exact this
theorem Jg {F:Fence} {K:St→Prop} {Qc:Exit→Act→World→Prop} (h:bl E R w β s a) (hf:bV R s.ro F) {fo:Operand} {args:Array Operand} {tys:Array TypeId} (ho:o.op=.call { callee:=.value fo,args:=args,argTypes:=tys })
  {g:FuncId} {first cap l:List AV} (hfo:bJ E s.ae fo=.v (.fn g first cap)) (hl:nE E s.ae args.toList=some l)
  (hc:cB E g (first++l++cap) s.G (fun r G'=>K ((s.cD G').put o.dst (.v r)))) (N:Act→World→Prop) (hN:∀ a' w',py E R w β s K a' w'→N a' w'):o.wpIn F 0 E.P a w N Qc:=by
 refine ⟨fun f _=>hf.fn f,?_⟩;have rf:=aT h fo;rw [hfo] at rf;have Ze:Rel R w (.fn g first cap) (a.eval fo):=rf;have rl:=gT h hl;generalize Zf:a.eval fo=fv at Ze;cases Ze with
 | @fn _ _ _ vs us h1 h2=>
 have bE:(o.semAt F.round a.eval).run E.P w=.ok (.enter g ⟨vs++args.toList.map a.eval++us⟩) w:=by
  rw [aaY _ _ _ (fun c e=>by rw [ho] at e; cases e)];simp only [execOp,ho,resolve,Zf,ab7,aaM,aaZ,aaC,invoke,kB];have:=nT hc.1 (⟨vs⟩++⟨args.toList.map a.eval⟩++⟨us⟩) w;simpa using this
 rw [bE];refine ⟨fun e=>by rw [hf.depth] at e; simp at e,hf.calls ?_⟩;refine (hc.2 R w (vs++args.toList.map a.eval++us) h.g ((h1.append rl).append h2)).mono ?_;intro e TC he;cases e with
 |returned c=>
  obtain ⟨r,G',R',hK,hr,hg,st⟩:=he;obtain ⟨q1,q2⟩:=h.uv hg st;exact hN _ _ ⟨_,R',β,hK,q1.put o.dst (x:=.v r) hr,by rw [a6]; exact q2,by rw [iJ]; rfl⟩
 |panicked c=>exact he.elim
 |outgrown=>exact he.elim
theorem bV.rounds {R:ak} {ro:Option Nat} {F:Fence} (h:bV R ro F) {n:Nat} {P:Program} {l:Nat} {f:FuncId} {tmps:Array Value} {s5 bd:Code} {w:World} {Q:Ending→World→Prop}
  (hc:RoundIn aaH n P l f tmps s5 bd w Q):RoundIn F n P l f tmps s5 bd w Q:=by
 cases ro with
 |none=>rw [show F=aaH from h]; exact hc
 |some id=>obtain ⟨b,_,h2⟩:=h; rw [h2]; exact hc
theorem F6 {F:Fence} {K:St→Prop} {Qc:Exit→Act→World→Prop} (h:bl E R w β s a) (hf:bV R s.ro F) {fo:Operand} {args:Array Operand} {tys:Array TypeId} (ho:o.op=.call { callee:=.value fo,args:=args,argTypes:=tys })
  {id:Nat} {l:List AV} (hfo:bJ E s.ae fo=.v (.yield id)) (hl:nE E s.ae args.toList=some l)
  (hc:kE E id l s.G (fun b G'=>K ((s.cD G').put o.dst (.v (.bool b))))) (N:Act→World→Prop) (hN:∀ a' w',py E R w β s K a' w'→N a' w'):o.wpIn F 0 E.P a w N Qc:=by
 refine ⟨fun f _=>hf.fn f,?_⟩;have rf:=aT h fo;rw [hfo] at rf;have Ze:Rel R w (.yield id) (a.eval fo):=rf;have rl:=gT h hl;generalize Zf:a.eval fo=fv at Ze;cases Ze with
 | @yield _ b hb=>
 obtain ⟨r,xQ,Dz,Zg⟩:=hc R w (args.toList.map a.eval) b h.g rl hb;have bE:(o.semAt F.round a.eval).run E.P w=.ok (.round b r.fn ((r.params.zip ⟨args.toList.map a.eval⟩).foldl (fun tmps (t,a)=>tmps.setIfInBounds t a) r.tmps) r.assign r.body) w:=by
  rw [aaY _ _ _ (fun c e=>by rw [ho] at e; cases e)];simp only [execOp,ho,resolve,Zf,ab7,aaM,aaZ,aaC,invoke,kB];have:=run_yield (P:=E.P) xQ (args:=⟨args.toList.map a.eval⟩) Dz;simpa using this
 rw [bE];refine ⟨fun e=>by rw [hf.depth] at e; simp at e,hf.rounds (Zg.mono ?_)⟩;intro e TC he;cases e with
 |returned c=>
  obtain ⟨r,G',R',hK,rfl,hg,st⟩:=he;obtain ⟨q1,q2⟩:=h.uv hg st;exact hN _ _ ⟨_,R',β,hK,q1.put o.dst (x:=.v (.bool r)) (Rel.bool r),by rw [a6]; exact q2,by rw [iJ]; rfl⟩
 |panicked c=>exact he.elim
 |outgrown=>exact he.elim
end calls
def pz (ops:List Oper) (j:Nat):Option Tmp:=match nth ops j with
 |some o=>o.dst
 |none=>none
def dE:Bool→Prop→Prop
 |true,p=>p
 |false,_=>False
theorem dE.mk {c:Bool} {p:Prop} (h:c=true) (hp:p):dE c p:=by subst h; exact hp
theorem dE.out {c:Bool} {p:Prop} (h:dE c p):c=true∧p:=by
 cases c
 ·exact h.elim
 ·exact ⟨rfl,h⟩
def j8 (E:Env) (f:FuncId) (o:Oper) (K:St→Prop) (s:St):Prop:=
 match o.op with
 |.call { callee:=.value x,args,.. }=>match bJ E s.ae x,nE E s.ae args.toList with
  |.v (.fn g first cap),some l=>cB E g (first++l++cap) s.G (fun r G'=>K ((s.cD G').put o.dst (.v r)))
  |.v (.yield id),some l=>kE E id l s.G (fun b G'=>K ((s.cD G').put o.dst (.v (.bool b))))
  |_,_=>False
 |.defer _=>False
 |_=>match an E f s o with
  |some (c,s')=>dE c (K s')
  |none=>False
def cn (E:Env) (f:FuncId) (ops:List Oper) (o:Oper) (K:St→Prop) (s:St):Prop:=
 match o.guard with
 |none=>j8 E f o K s
 |some (j,want)=>match pz ops j with
  |none=>False
  |some d=>match lk s.ae d with
   |.v (.bool b)=>(b=want→j8 E f o K (s.put (some d) (.v (.bool want))))∧(b=!want→K ((s.put (some d) (.v (.bool (!want)))).put o.dst (.v fO)))
   |.v (.bk [])=>K (s.put o.dst (.v fO))
   |_=>False
def fV (E:Env) (f:FuncId) (ops:List Oper) (o:Oper) (K:St→Prop) (s:St):Prop:=
 match o.guard,jr E f s o with
 |none,some s'=>K s'
 |_,_=>cn E f ops o K s
def ft (E:Env) (f:FuncId) (ops:List Oper) (o:Oper) (K:St→Prop) (s:St):Prop:=
 match o.guard,vd E f s o,ua E s o with
 |none,some (c,s'),_=>dE c (K s')
 |none,none,some (c,s0,left,g)=>dE c ((left=[]→K s0)∧∀ i∈left,dE (g i).1 (K (g i).2))
 |_,_,_=>fV E f ops o K s
def fu (E:Env) (f:FuncId) (ops:List Oper) (o:Oper) (K:St→Prop) (s:St):Prop:=
 match IS E f s o with
 |some (c,s')=>c=true∧ft E f ops o K s'
 |none=>ft E f ops o K s
def Bd (E:Env) (f:FuncId) (o:Oper) (K:St→Prop) (s:St):Prop:=match Bb E f o s with
 |some s'=>K s'
 |none=>False
def pA (E:Env) (f:FuncId) (ops:List Oper):List Oper→(St→Prop)→St→Prop
 |[],K,s=>K s
 |o :: rest,K,s=>fu E f ops o (Bd E f o (pA E f ops rest K)) s
section regions
variable {E:Env} {R:ak} {w:World} {β:Nat→Nat} {s:St} {a:Act}
theorem Be {f:FuncId} {o:Oper} {F:Fence} {K:St→Prop} {Qc:Exit→Act→World→Prop} (h:bl E R w β s a) (hf:bV R s.ro F) (ha:j8 E f o K s) (N:Act→World→Prop) (hN:∀ a' w',py E R w β s K a' w'→N a' w') :
  o.wpIn F 0 E.P a w N Qc:=by
 unfold j8 at ha;split at ha
 ·rename_i x args tys ho;split at ha
  ·rename_i g first cap l h1 h2
   exact Jg h hf ho h1 h2 ha N hN
  ·rename_i id l h1 h2;exact F6 h hf ho h1 h2 ha N hN
  ·exact ha.elim
 ·exact ha.elim
 ·rename_i nc nd;split at ha
  ·rename_i c s' hs;obtain ⟨rfl,hK⟩:=ha.out;exact DD h hf hs hK (fun c e=>nd c e) N hN
  ·exact ha.elim
theorem bl.DE (h:bl E R w β s a) {d:Tmp} {b t:Bool} (hd:lk s.ae d=.v (.bool b)) (e:b=t):bl E R w β (s.put (some d) (.v (.bool t))) a:=by
 subst e;simp only [St.put];split
 ·refine ⟨h.g,h.b,fun i hi=>?_,h.n,h.d⟩;by_cases e:d=i
  ·subst e;rw [ay];have:=h.t d (by rw [hd]; simp);rw [hd] at this;exact this
  ·rw [aQ e] at hi ⊢;exact h.t i hi
 ·exact h
theorem F7 (h:bl E R w β s a) {ops:Array Oper} {j:Nat} {d:Tmp} {b:Bool} (hj:pz ops.toList j=some d) (hd:lk s.ae d=.v (.bool b)):yielded ops a.tmps j=some b:=by
 unfold pz at hj;split at hj
 ·rename_i o ho;rw [bg] at ho;have oP:ops[j]?=some o:=by simpa using ho
  obtain ⟨c,h1,h2⟩:=h.t d (by rw [hd]; simp);rw [hd] at h2;have h2':Rel R w (.bool b) c:=h2;cases h2';simp [yielded,oP,hj,h1]
 ·cases hj
theorem Ar (h:bl E R w β s a) {ops:Array Oper} {j:Nat} {d:Tmp} (hj:pz ops.toList j=some d) (hd:lk s.ae d=.v (.bk [])):yielded ops a.tmps j=none:=by
 unfold pz at hj;split at hj
 ·rename_i o ho;rw [bg] at ho;have oP:ops[j]?=some o:=by simpa using ho
  obtain ⟨c,h1,h2⟩:=h.t d (by rw [hd]; simp);rw [hd] at h2;have h2':Rel R w (.bk []) c:=h2;cases h2';simp [yielded,oP,hj,h1]
 ·cases hj
theorem s6 {f:FuncId} {o:Oper} {F:Fence} {ops:Array Oper} {K:St→Prop} {Qc:Exit→Act→World→Prop} (h:bl E R w β s a) (hf:bV R s.ro F) (ha:cn E f ops.toList o K s) (N:Act→World→Prop) (hN:∀ a' w',py E R w β s K a' w'→N a' w') :
  (if aax o (yielded ops a.tmps) then o.wpIn F 0 E.P a w N Qc else (∀ f,o.about E.P w a.eval=some f→F.fn f)∧N (a.put o.dst undef) w):=by
 unfold cn at ha;split at ha
 ·rename_i hg;have:aax o (yielded ops a.tmps)=true:=by simp [aax,hg]
  rw [if_pos this];exact Be h hf ha N hN
 ·rename_i j want hg;split at ha
  ·exact ha.elim
  ·rename_i d hd;split at ha
   ·rename_i b hb;have hy:=F7 h hd hb;by_cases hw:b=want
    ·have:aax o (yielded ops a.tmps)=true:=by simp [aax,hg,hy,hw]
     rw [if_pos this];exact Be (h.DE hb hw) (by rw [iJ]; exact hf) (ha.1 hw) N (fun a' w' hh=>hN a' w' (by
      obtain ⟨s',R',β',q1,q2,q3,q4⟩:=hh;exact ⟨s',R',β',q1,q2,by rw [a6] at q3; exact q3,by rw [iJ] at q4; exact q4⟩))
    ·have hbw:b=!want:=by cases b <;> cases want <;> simp_all
     have:¬ aax o (yielded ops a.tmps)=true:=by simp [aax,hg,hy,hw]
     rw [if_neg this];refine ⟨fun f _=>hf.fn f,hN _ _ ⟨_,R,β,ha.2 hbw,(h.DE hb hbw).put o.dst (x:=.v fO) (Rel.bk .nil),by rw [a6,a6]; exact Step.refl _ _ _ _,by rw [iJ,iJ]⟩⟩
   ·rename_i hb;have hy:=Ar h hd hb;have:¬ aax o (yielded ops a.tmps)=true:=by simp [aax,hg,hy]
    rw [if_neg this];exact ⟨fun f _=>hf.fn f,hN _ _ ⟨_,R,β,ha,h.put o.dst (x:=.v fO) (Rel.bk .nil),by rw [a6]; exact Step.refl _ _ _ _,by rw [iJ]⟩⟩
   ·exact ha.elim
theorem As {f:FuncId} {o:Oper} {F:Fence} {ops:Array Oper} {K:St→Prop} {Qc:Exit→Act→World→Prop} (h:bl E R w β s a) (hf:bV R s.ro F) (ha:fV E f ops.toList o K s) (N:Act→World→Prop) (hN:∀ a' w',py E R w β s K a' w'→N a' w') :
  (if aax o (yielded ops a.tmps) then o.wpIn F 0 E.P a w N Qc else (∀ f,o.about E.P w a.eval=some f→F.fn f)∧N (a.put o.dst undef) w):=by
 unfold fV at ha;split at ha
 ·rename_i s' hg hb;have:aax o (yielded ops a.tmps)=true:=by simp [aax,hg]
  rw [if_pos this];unfold jr at hb;split at hb
  ·rename_i t len parts ho;split at hb
   ·rename_i d hd;split at hb
    ·split at hb
     ·rename_i i hi;split at hb
      ·rename_i elem bR ag oZ z esz es hk hv;cases hb;obtain ⟨nx,x,w',R',β',h1,h2,h3,h4⟩:=um h t len parts ho hv hi hk;refine ⟨fun f _=>hf.fn f,?_⟩;rw [aaY _ _ _ (fun c e=>by rw [ho] at e; cases e),h1];rw [hd] at h3 h4;have fM:N (a.put o.dst x) w':=hN _ _ ⟨_,R',β',ha,by rw [hd]; exact h3,h4,by rw [iJ]; rfl⟩;rcases h2 with rfl|⟨rfl,rfl⟩
       ·exact fM
       ·exact fM
      ·rename_i elem esz ag oZ z hk _;split at hb;rotate_left
       ·cases hb
       rename_i cs hv;cases hb;obtain ⟨nx,x,w',R',β',h1,h2,h3,h4⟩:=ul h t len parts ho hv hi hk;refine ⟨fun f _=>hf.fn f,?_⟩;rw [aaY _ _ _ (fun c e=>by rw [ho] at e; cases e),h1];rw [hd] at h3 h4;have fM:N (a.put o.dst x) w':=hN _ _ ⟨_,R',β',ha,by rw [hd]; exact h3,h4,by rw [iJ]; rfl⟩;rcases h2 with rfl|⟨rfl,rfl⟩
       ·exact fM
       ·exact fM
      ·cases hb
     ·cases hb
    ·split at hb
     ·split at hb
      ·rename_i i hi;split at hb
       ·rename_i elem bR ag oZ z esz es hk hv;split at hb
        ·rename_i hle;cases hb;obtain ⟨nx,x,w',R',β',h1,h2,h3,h4⟩:=ur h t len parts ho hv hi hk (aac hle);refine ⟨fun f _=>hf.fn f,?_⟩;rw [aaY _ _ _ (fun c e=>by rw [ho] at e; cases e),h1];rw [hd] at h3 h4;have fM:N (a.put o.dst x) w':=hN _ _ ⟨_,R',β',ha,by rw [hd]; exact h3,h4,by rw [iJ]; rfl⟩;rcases h2 with rfl|⟨rfl,rfl⟩
         ·exact fM
         ·exact fM
        ·cases hb
       ·cases hb
      ·cases hb
     ·split at hb
      ·split at hb
       ·rename_i i hi;split at hb
        ·rename_i elem bR ag oZ z esz es hk hv;split at hb
         ·rename_i hle;cases hb;obtain ⟨nx,x,w',R',β',h1,h2,h3,h4⟩:=uo h t len parts ho hv hi hk (aac hle);refine ⟨fun f _=>hf.fn f,?_⟩;rw [aaY _ _ _ (fun c e=>by rw [ho] at e; cases e),h1];rw [hd] at h3 h4;have fM:N (a.put o.dst x) w':=hN _ _ ⟨_,R',β',ha,by rw [hd]; exact h3,h4,by rw [iJ]; rfl⟩;rcases h2 with rfl|⟨rfl,rfl⟩
          ·exact fM
          ·exact fM
         ·cases hb
        ·cases hb
       ·cases hb
      ·cases hb
   ·cases hb
  ·cases hb
 ·exact s6 h hf ha N hN
theorem Lh {f:FuncId} {o:Oper} {c:Bool} {s':St} (h:vd E f s o=some (c,s')):s'.ro=s.ro∧∀ d,o.op≠.defer d:=by
 unfold vd at h;cases h
theorem Jh {o:Oper} {c:Bool} {s0:St} {left:List Nat} {g:Nat→Bool × St} (h:ua E s o=some (c,s0,left,g)):(∃ x,o.op=.next x false∧AS E s o.dst (bJ E s.ae x)=some (c,s0,left,g))∧s0.ro=s.ro∧∀ i,(g i).2.ro=s.ro:=by
 unfold ua at h;split at h
 ·rename_i x ho;refine ⟨⟨x,ho,h⟩,?_⟩;unfold AS at h;split at h
  ·split at h
   ·split at h
    ·cases h;exact ⟨iJ _ _ _,fun i=>iJ _ _ _⟩
    ·cases h
   ·cases h
  ·cases h
 ·cases h
theorem uw {f:FuncId} {F:Fence} {o:Oper} {s':St} {K:St→Prop} {Qc:Exit→Act→World→Prop} (hf:bV R s.ro F) (hd:cm E R w β s a o s') (hK:K s') (b6:s'.ro=s.ro)
  (nd:∀ c,o.op≠.defer c) (N:Act→World→Prop) (hN:∀ a' w',py E R w β s K a' w'→N a' w'):o.wpIn F 0 E.P a w N Qc:=by
 obtain ⟨nx,x,w',R',β',h1,h2,h3,h4⟩:=hd;refine ⟨fun f _=>hf.fn f,?_⟩;rw [aaY _ _ _ nd,h1];have:N (a.put o.dst x) w':=hN _ _ ⟨s',R',β',hK,h3,h4,b6⟩;rcases h2 with rfl|⟨rfl,rfl⟩
 ·exact this
 ·exact this
theorem rm {f:FuncId} {o:Oper} {F:Fence} {ops:Array Oper} {K:St→Prop} {Qc:Exit→Act→World→Prop} (h:bl E R w β s a) (hf:bV R s.ro F) (ha:ft E f ops.toList o K s) (N:Act→World→Prop) (hN:∀ a' w',py E R w β s K a' w'→N a' w') :
  (if aax o (yielded ops a.tmps) then o.wpIn F 0 E.P a w N Qc else (∀ f,o.about E.P w a.eval=some f→F.fn f)∧N (a.put o.dst undef) w):=by
 unfold ft at ha;split at ha
 ·rename_i c s' hg hb;have:aax o (yielded ops a.tmps)=true:=by simp [aax,hg]
  rw [if_pos this];obtain ⟨rfl,hK⟩:=ha.out;obtain ⟨k1,k2⟩:=Lh hb;exact uw (f:=f) hf (FU h hb) hK k1 k2 N hN
 ·rename_i c s0 left g hg _ hb;have:aax o (yielded ops a.tmps)=true:=by simp [aax,hg]
  rw [if_pos this];obtain ⟨rfl,hK1,hK2⟩:=ha.out;obtain ⟨⟨x,ho,hm⟩,k1,k2⟩:=Jh hb;have nd:∀ c,o.op≠.defer c:=fun c e=>by rw [ho] at e; cases e
  rcases FQ h x ho hm with ⟨hl,hd⟩|⟨i,hi,hd⟩
  ·exact uw (f:=f) hf hd (hK1 hl) k1 nd N hN
  ·obtain ⟨q1,q2⟩:=(hK2 i hi).out;exact uw (f:=f) hf (hd q1) q2 (k2 i) nd N hN
 ·exact As h hf ha N hN
theorem Au {f:FuncId} {o:Oper} {F:Fence} {ops:Array Oper} {K:St→Prop} {Qc:Exit→Act→World→Prop} (h:bl E R w β s a) (hf:bV R s.ro F) (ha:fu E f ops.toList o K s) (N:Act→World→Prop) (hN:∀ a' w',py E R w β s K a' w'→N a' w') :
  (if aax o (yielded ops a.tmps) then o.wpIn F 0 E.P a w N Qc else (∀ f,o.about E.P w a.eval=some f→F.fn f)∧N (a.put o.dst undef) w):=by
 unfold fu at ha;split at ha
 ·rename_i c s' hz;obtain ⟨rfl,ha⟩:=ha;obtain ⟨R1,k1,k2,k3⟩:=Le h hz;refine rm k1 (by rw [k3]; exact hf.mono k2.ext) ha N ?_;rintro a' w' ⟨s2,R',β',q1,q2,q3,q4⟩;exact hN a' w' ⟨s2,R',β',q1,q2,k2.trans q3,q4.trans k3⟩
 ·exact rm h hf ha N hN
theorem xU {f:FuncId} {F:Fence} {ops:Array Oper} {K:St→Prop} {Qc:Exit→Act→World→Prop} (hQ:∀ a' w',py E R w β s K a' w'→Qc .normal a' w') :
  ∀ (l:List Nat) (os:List Oper),l.map (fun i=>ops[i]?)=os.map some→∀ (R1:ak) (w1:World) (β1:Nat→Nat) (s1:St) (a1:Act),bl E R1 w1 β1 s1 a1→Step R w β s.boxes R1 w1 β1 s1.boxes→s1.ro=s.ro→bV R1 s1.ro F →
   pA E f ops.toList os K s1→wpOpsIn F 0 E.P ops Qc l a1 w1
 |[],os,hm,R1,w1,β1,s1,a1,hr,lu,b6,_,ha=>by
  have:os=[]:=by simpa using hm.symm
  subst this;exact hQ _ _ ⟨s1,R1,β1,ha,hr,lu,b6⟩
 |i :: l,[],hm,_,_,_,_,_,_,_,_,_,_=>by simp at hm
 |i :: l,o :: os,hm,R1,w1,β1,s1,a1,hr,lu,b6,hf,ha=>by
  simp only [List.map_cons,List.cons.injEq] at hm;obtain ⟨hi,hm⟩:=hm;simp only [wpOpsIn,hi];refine Au hr hf (show fu E f ops.toList o (Bd E f o (pA E f ops.toList os K)) s1 from ha) _ ?_;rintro a' w' ⟨s',R',β',q1,q2,q3,q4⟩;unfold Bd at q1;split at q1
  ·rename_i s2 hp;obtain ⟨R2,p1,p2,p3,_⟩:=Je q2 hp;exact xU hQ l os hm R2 w' β' s2 a' p1 ((lu.trans q3).trans p2) (p3.trans (q4.trans b6)) (by rw [p3,q4]; exact hf.mono (q3.ext.trans p2.ext)) q1
  ·exact q1.elim
theorem Ji (ops:Array Oper):(List.range ops.size).map (fun i=>ops[i]?)=ops.toList.map some:=by
 apply List.ext_getElem?;intro i;simp only [List.getElem?_map];by_cases hi:i < ops.size
 ·rw [List.getElem?_range hi];simp [hi]
 ·rw [abW (by simp; omega),abW (by simp; omega)];rfl
theorem fU.region {f:FuncId} {id:Nat} {ops:Array Oper} {Q:Exit→St→Prop} {s:St} (h:pA E f ops.toList ops.toList (Q .normal) s):fU E (.region id ops false) Q s:=fun R w β a F hr hf=>by
 refine wpIn_region (xU (R:=R) (w:=w) (β:=β) (s:=s) (K:=Q .normal) (f:=f) ?_ _ _ (Ji ops) R w β s a hr (Step.refl _ _ _ _) rfl hf h);rintro a' w' ⟨s',R',β',h1,h2⟩;exact ⟨s',R',β',h1,h2⟩
end regions
end Go.Am
namespace Go.Am
open Go
def X5:Nat→List AV→bh
 |_,[]=>[]
 |n,a :: l=>.put n (.v a) :: X5 (n+1) l
def St.init (ntmps:Nat) (args:List AV) (G:List GO):St:=
 ⟨X5 0 args,[],G,[],none,max ntmps args.length⟩
def pC:List Nat→List GO→Option (List GO)
 |[],G=>some G
 |id :: l,G=>match nth G id with
  |some (.defers true)=>pC l (aF G id (.defers false))
  |_=>none
def F8 (E:Env) (s:St):List ResultVar→Option (List AV)
 |[]=>some []
 |.tmp t :: l=>match lk s.ae t,F8 E s l with
  |.v a,some r=>some (a :: r)
  |_,_=>none
 |.cell p t :: l=>match sD E s t (lk s.ae p),F8 E s l with
  |some a,some r=>some (a :: r)
  |_,_=>none
def Li (E:Env) (s:St) (fn:Func):Option AV:=match F8 E s fn.results.toList with
 |some [a]=>some a
 |some l=>some (.bk l)
 |none=>none
def TM (E:Env) (fn:Func) (Q:AV→List GO→Prop):Exit→St→Prop
 |.normal,s | .ret,s=>match pC s.marks s.G with
  |some G=>match Li E (s.cD G) fn with
   |some r=>Q r G
   |none=>False
  |none=>False
 |_,_=>False
section fns
variable {E:Env} {R:ak} {w:World} {β:Nat→Nat} {s:St} {a:Act}
def xV (tmps:Array Value):ResultVar→Sem Value
 |.tmp t=>pure (tmps.getD t undef)
 |.cell p t=>do loadVar t (← asAddr (tmps.getD p undef))
theorem xW (fn:Func) (tmps:Array Value):results fn tmps=(do
  let vs ← fn.results.mapM (xV tmps)
  pure (if h:vs.size=1 then vs[0] else .tuple vs)):=by
 unfold results;congr 1
theorem s7 (h:bl E R w β s a):∀ {l:List ResultVar} {r:List AV},F8 E s l=some r →
  ∃ vs,(l.mapM (xV a.tmps)).run E.P w=.ok vs w∧aK R w r vs
 |[],r,hl=>by
  simp [F8] at hl;subst hl;exact ⟨[],by simp,.nil⟩
 |.tmp t :: l,r,hl=>by
  unfold F8 at hl;split at hl
  ·rename_i x r' h1 h2;cases hl;obtain ⟨vs,g1,g2⟩:=s7 h h2;obtain ⟨c,k1,k2⟩:=h.t t (by rw [h1]; simp);rw [h1] at k2;have hg:a.tmps.getD t undef=c:=by simp [abN,k1]
   refine ⟨c :: vs,?_,.cons k2 g2⟩;simp only [List.mapM_cons,aaM,aaZ,aaC,xV,hg,g1]
  ·cases hl
 |.cell p t :: l,r,hl=>by
  unfold F8 at hl;split at hl
  ·rename_i v r' h1 h2
   ·cases hl;obtain ⟨vs,g1,g2⟩:=s7 h h2;obtain ⟨c,k1,k2⟩:=h.t p (fun e=>by rw [e] at h1; unfold sD at h1; split at h1 <;> simp_all [nD]);have hg:a.tmps.getD p undef=c:=by simp [abN,k1]
    unfold sD at h1;split at h1
    ·rename_i i cs off hi hc;split at h1
     ·rename_i l' hs;obtain ⟨b,o',us,e,q1,q2,q3⟩:=vg h k2 hc;obtain ⟨m1,m2,m3,m4⟩:=qk hs q1 q2;obtain ⟨c',AW,ej⟩:=oX (E:=E) hi (b:=b) (off:=o'+off) m1 m2 m3 (fun j y hy=>by rw [Nat.add_assoc]; exact q3 _ _ (m4 j y hy)) h1;refine ⟨c' :: vs,?_,.cons ej g2⟩;have ha:(asAddr c).run E.P w=.ok ⟨b,o'+off,none⟩ w:=by rw [e]; rfl
      have F9:(xV a.tmps (.cell p t)).run E.P w=.ok c' w:=by
       simp only [xV,aaM,hg,ha,aaC,AW]
      simp only [List.mapM_cons,aaM,aaZ,aaC,F9,g1]
     ·cases h1
    ·cases h1
  ·cases hl
theorem Lj (h:bl E R w β s a) {fn:Func} {r:AV} (hr:Li E s fn=some r):∃ c,(results fn a.tmps).run E.P w=.ok c w∧Rel R w r c:=by
 unfold Li at hr;split at hr
 ·rename_i x hl;cases hr;obtain ⟨vs,g1,g2⟩:=s7 h hl;cases g2 with
  | @cons _ c _ _ g2 g3=>
  cases g3;refine ⟨c,?_,g2⟩;rw [xW,abO];simp only [aaM,Sem.run_map];rw [g1];simp
 ·rename_i l cQ hl;cases hr;obtain ⟨vs,g1,g2⟩:=s7 h hl;refine ⟨.tuple ⟨vs⟩,?_,.bk g2⟩;have hlen:vs.length≠1:=by
   rw [← g2.length];intro e
   match l,e with
   |[x],_=>exact cQ x rfl
  rw [xW,abO];simp only [aaM,Sem.run_map];rw [g1];simp [hlen]
 ·cases hr
theorem Jj (fn:Func) (Q:Ending→World→Prop):∀ {marks:List Nat} {G G':List GO} {R:ak} {w:World} {β:Nat→Nat} {s:St} {a:Act},bl E R w β (s.cD G) a→qR R marks a.defers→pC marks G=some G' →
  (∀ w' ,bl E R w' β (s.cD G') a→Step R w β s.boxes R w' β s.boxes→∃ v,(results fn a.tmps).run E.P w'=.ok v w'∧Q (.returned v) w')→LeavesInM aaH 0 E.P fn a.tmps Q a.defers .returning w:=by
 intro marks;have key:∀ (marks:List Nat) (ds:List Deferred) (G G':List GO) (R:ak) (w:World) (β:Nat→Nat) (s:St) (a:Act),bl E R w β (s.cD G) a→qR R marks ds→pC marks G=some G' →
   (∀ w' ,bl E R w' β (s.cD G') a→Step R w β s.boxes R w' β s.boxes→∃ v,(results fn a.tmps).run E.P w'=.ok v w'∧Q (.returned v) w')→LeavesInM aaH 0 E.P fn a.tmps Q ds .returning w:=by
  intro marks
  induction marks with
  |nil=>
   intro ds G G' R w β s a hr hd hl hq;cases ds with
   |cons _ _=>exact hd.elim
   |nil=>
    simp [pC] at hl;subst hl;obtain ⟨v,h1,h2⟩:=hq w hr (Step.refl _ _ _ _);exact ⟨v,h1,h2⟩
  |cons id marks ih=>
   intro ds G G' R w β s a hr hd hl hq;cases ds with
   |nil=>exact hd.elim
   |cons d ds=>
    obtain ⟨⟨b,hb,rfl⟩,hd⟩:=hd;unfold pC at hl;split at hl
    ·rename_i hg;have hob:w.heap[b]?=some (.deferred (some [])):=hr.g.obj id _ _ hg hb;have bZ:=bi hob;have KR:(ab1 b).run E.P w=.ok [] (World.put w b (.deferred none)):=by
      simp only [ab1,getObj,setObj,aaM,Sem.run,hob,aaC,aaZ];rfl
     obtain ⟨q1,q2⟩:=hr.setObj (s:=s.cD G) (x':=.deferred none) (go':=.defers false) hb hob trivial trivial (fun _ e=>by cases e) (gN w b _ bZ);refine ⟨by simp,.inl ⟨b,_,rfl,KR,?_⟩⟩;refine ih ds (aF G id (.defers false)) G' R _ β s a q1 hd hl (fun w' mh lu=>?_);exact hq w' mh (q2.trans lu)
    ·cases hl
 intro G G' R w β s a hr hd hl hq;exact key marks a.defers G G' R w β s a hr hd hl hq
end fns
end Go.Am
namespace Go.Am
open Go
section intro
variable {E:Env} {R R':ak} {w w':World} {β β':Nat→Nat}
theorem xX {bx KF:cO} (h:Step R w β bx R' w' β' KF) (hn:∀ k cs,dy bx k≠some cs):Step R w (fun _=>0) fq R' w' (fun _=>0) fq:=by
 have own:∀ b,Own R β bx b→Live R b:=fun b ho=>by
  rcases ho with ho|⟨k,cs,hk,_⟩
  ·exact ho
  ·exact absurd hk (hn k cs)
 exact ⟨h.ext,h.os,h.tape,h.output,h.size,fun b hb uq=>h.aW b hb (fun ho=>uq (.inl (own b ho))),fun b hb ho=>.inl (own b (h.own b hb (.inl (eP ho)))),fun b o hi hb uq=>h.im b o hi hb (fun ho=>uq (.inl (own b ho)))⟩
theorem Lk:∀ {l:List AV} {n i:Nat},(i < n∨n+l.length≤i→lk (X5 n l) i=.none)∧(∀ a,l[i - n]?=some a→n≤i→lk (X5 n l) i=.v a)
 |[],n,i=>⟨fun _=>rfl,fun a h=>by simp at h⟩
 |b :: l,n,i=>by
  obtain ⟨h1,h2⟩:=Lk (l:=l) (n:=n+1) (i:=i);refine ⟨fun h=>?_,fun a h hn=>?_⟩
  ·simp only [List.length_cons] at h;simp only [X5];rw [aQ (by omega)];exact h1 (by omega)
  ·simp only [X5];by_cases e:n=i
   ·subst e;rw [ay];simp at h;rw [h]
   ·rw [aQ e];refine h2 a ?_ (by omega);have:i - n=(i - (n+1))+1:=by omega
    rw [this] at h;simpa using h
theorem Ll {ntmps:Nat} {args:List AV} {cs:List Value} {G:List GO} (hg:dB E R w G) (hl:aK R w args cs) :
  bl E R w (fun _=>0) (St.init ntmps args G) { tmps:=⟨cs⟩++Array.replicate (ntmps - (⟨cs⟩:Array Value).size) undef,defers:=[] }:=by
 have hlen:=hl.length;refine ⟨hg,⟨fun k c hk=>?_,fun k k' c c' hk _ _=>?_⟩,fun i hi=>?_,?_,trivial⟩
 ·simp [St.init,dy] at hk
 ·simp [St.init,dy] at hk
 ·simp only [St.init] at hi ⊢;obtain ⟨h1,h2⟩:=Lk (l:=args) (n:=0) (i:=i);by_cases bZ:i < args.length
  ·have hy:args[i]?=some args[i]:=List.getElem?_eq_getElem bZ;obtain ⟨c,k1,k2⟩:=hl.get hy;rw [h2 _ (by rw [Nat.sub_zero]; exact hy) (Nat.zero_le _)];refine ⟨c,?_,k2⟩;rw [Array.getElem?_append_left (by simp; omega)];simpa using k1
  ·exact absurd (h1 (by omega)) hi
 ·simp [St.init];omega
theorem Ga {ntmps:Nat} {args:List AV} {G:List GO} (k:Nat) (cs:List AV):dy (St.init ntmps args G).boxes k≠some cs:=by
 simp [St.init,dy]
theorem cB.intro {g : FuncId} {fn : Func} {c : Code} {args : List AV} {G : List GO} {Q : AV → List GO → Prop} (hf : E.P.funcs[g]? = some fn) (hb : fn.body = some c) (hn : (fn.name == "runtime.NumGoroutine") = false)
  (h:fU E c (TM E fn Q) (St.init fn.ntmps args G)):cB E g args G Q:=by
 refine ⟨⟨fn,hf,by simp [hb],hn⟩,fun R w cs hg hl=>?_⟩;refine callsIn_of_wp_marks hf hb trivial (wpIn_mono (h R w (fun _=>0) _ aaH (Ll hg hl) rfl) ?_);rintro e a' w' ⟨s',R',β',hq,hr,lu,b6⟩;have fin:(match pC s'.marks s'.G with
  |some G=>match Li E (s'.cD G) fn with
   |some r=>Q r G
   |none=>False
  |none=>False)→LeavesInM aaH 0 E.P fn a'.tmps (HQ E R w Q) a'.defers .returning w':=by
  intro hq;split at hq
  ·rename_i G2 Zh;split at hq
   ·rename_i r Gb;refine Jj fn (HQ E R w Q) (s:=s') (G:=s'.G) hr hr.d Zh (fun TC Ca vt=>?_);obtain ⟨v,h1,h2⟩:=Lj Ca Gb;exact ⟨v,h1,r,G2,R',hq,h2,Ca.g,xX (lu.trans vt) Ga⟩
   ·exact hq.elim
  ·exact hq.elim
 cases e with
 |normal=>exact fin hq
 |ret=>exact fin hq
 |exit _=>exact hq.elim
 |goto _=>exact hq.elim
 |panic _=>exact hq.elim
 |outgrown=>exact hq.elim
end intro
end Go.Am
