/- The abstract machine: what it does is what the model does: copy; and one theorem for every operation. -/
import Derived.Test.YtldcljfjjoidhaaGreatDoorAmKE
import Derived.RangeFuncCalls
import Derived.RangeFuncRecord
import Derived.RangeFuncIn
set_option linter.all false
open Array renaming getD_eq_getD_getElem?→abC, mapM_eq_mapM_toList→abD, length_toList→abN
open Bool renaming and_eq_true→aaO, or_eq_true→abG
open Go.Builtin renaming firstCells→abn, copy_→abt, clear_→abu, lenOf→abM, zeroCells→abR
open Go.Deferred renaming ofValue→abW
open Go.Fence renaming wide→abi
open Go.Instr renaming takeDeferred→abQ
open Go.Oper renaming semAt_eq→abp
open Go.Region renaming wanted→aaB
open Go.Result renaming andThen_ok→aaY
open Go.Sem renaming run_bind→abj, run_pure→abq
open Go.Value renaming int→abO
open List renaming replicate→abo, length_take→abx, take_append_drop→aby, mem_of_mem_take→abz, getElem?_take→abB, length_map→abI, take_zero→abJ, length_replicate→abK, getElem?_eq_none→abL, mem_map→abP
open Nat renaming eq_of_beq_eq_true→aad, min→aao, le_of_ble_eq_true→aau, mul_le_mul_right→abr, le_refl→abv, min_eq_left→abA, ble→abE, add_zero→abF, min_le_left→abH
open Option.some renaming inj→abZ
open Prod.mk renaming injEq→abw
namespace Go.Am
open Go
section ops
variable {E:Env} {R:ak} {w:World} {β:Nat→Nat} {s:St} {a:Act} {o:Oper}
theorem bq.setRow (h:bq E R w β s a) {id b:Nat} {cs cs':List AV} {vs us:List Value} {el:TypeId} (hk:nth s.G id=some (.row cs el)) (hb:nth R.obj id=some (.ck b)) (hw:w.heap[b]?=some (.cells ⟨vs⟩ el (0,0)))
  (hr:aP R w cs' us) (h1:∀ v∈us,v.oneCell'=true):bq E R (w.setRow b ⟨us⟩) β (s.cP (aG s.G id (.row cs' el))) a∧Step R w β s.boxes R (w.setRow b ⟨us⟩) β s.boxes:=by
 obtain ⟨vs',b1,b2,b3,b4⟩:=h.g.obj id _ _ hk hb;have hex:=kb (R:=R) (w:=w) b4 ⟨us⟩;refine ⟨⟨⟨by simp [St.cP,h.g.len],fun kV go ro hg nF=>?_,h.g.inj,fun b' o' sS=>by have:=h.g.wf b' o' sS; simp; omega,fun g cs' hg=>(h.g.cw g cs' hg).mono hex,by first | exact h.g.lo | exact Nat.le_succ_of_le h.g.lo⟩,?_,h.t.mono hex,h.n,h.d⟩,?_⟩
 ·rcases dW hg with ⟨rfl,rfl,_⟩|⟨cK,sk⟩
  ·rw [hb] at nF;cases nF;exact ⟨_,setRow_heap w _ _ _ _ (0,0) hw,hr.mono hex,h1,b4⟩
  ·refine (h.g.obj kV go ro sk nF).mono hex (fun b' ka=>setRow_other w _ b' _ (fun e=>cK ?_)) (fun _ _ _ hi=>hi);subst e;exact h.g.inj id kV _ _ b' hb nF rfl ka
 ·exact h.b.bJ hex (fun k cs' jf=>setRow_other w _ _ _ (h.Ht hb jf)) (fun _ _ _ _ hi=>hi) (fun _ _ _ hl=>hl)
 ·have Dz:Own R β s.boxes b:=.inl ⟨id,_,hb,rfl⟩;exact ⟨hex,rfl,rfl,rfl,by simp,fun b' _ hn=>setRow_other w _ b' _ (fun e=>hn (e ▸ Dz)),fun _ _ hb=>hb,fun b o hi _ _=>hi⟩
theorem ug {P:Program} {w:World} {t ty elem:TypeId} {tl:List TypeId} {ie:TypeInfo} {esz n sLen b off len cap:Nat} {src:Value} {vs us:List Value} {el:TypeId} (e2:P.underlying t=some (.slice elem)) (f1:P.info? elem=some ie) (f2:ie.size=esz)
  (hw:w.heap[b]?=some (.cells ⟨vs⟩ el (0,0))) (hs:(abM src).run P w=.ok sLen w) (hn:n=aao sLen len) (hf:(abn esz n src).run P w=.ok ⟨us⟩ w) (hl:off+us.length≤vs.length) (h1:∀ v∈us,v.oneCell'=true) :
  (abt ⟨t :: tl⟩ ty #[.slice (some ⟨b,off,none⟩) len cap,src]).run P w=.ok (.int .i64 n) (w.setRow b ⟨vs.take off++us++vs.drop (off+us.length)⟩):=by
 have mP:=run_storeCells_at (P:=P) b off el us 0 ⟨vs⟩ w hw (by simpa using hl) h1;simp only [abF] at mP;subst hn;simp [abt,run_underlying e2,run_sizeOf w f1,f2,hs,hf,mP,goInt]
theorem Le (h:bq E R w β s a) {args:Array Operand} {t:TypeId} {tl:List TypeId} (ho:o.op=.call { callee:=.builtin .copy,args:=args,argTypes:=⟨t :: tl⟩ }) {d x:AV}
  (hl:oR E s.ab args.toList=some [d,x]) {i:TI} (hi:E.ti t=some i) {elem esz eb:Nat} {ag:Bool} {z:Option AV} (hk:i.k=.sl elem esz ag eb z) {n:Nat} {G':List GO} (hc:tN s esz d x=some (n,G')) :
  cz E R w β s a o ((s.cP G').put o.dst (.v (.int .i64 n))):=by
 have hr:=iW h hl;generalize hv:args.toList.map a.eval=vs at hr;have hx:=gu (E:=E) (w:=w) ho vs hv;cases hr with
 | @cons _ cd _ _ h0 h1=>
 cases h1 with
 | @cons _ cx _ _ h1 h2=>
 cases h2;obtain ⟨je,ud,e1,e2,e3,e4,e5,e6⟩:=cJ E hi;rw [hk] at e5;obtain ⟨ie,ue,rfl,f1,f2,f3,f4,f5,f6⟩:=fB e5;have gS:∀ {c:Value} {w':World},(abt ⟨t :: tl⟩ o.type #[cd,cx]).run E.P w=.ok c w'→(execOp a.eval o).run E.P w=.ok (.value c) w':=fun hh=>by
  rw [hx];simp only [builtin,abj,hh,aaY,abq]
 unfold tN at hc;split at hc
 ·rename_i id off sz len cap;cases h0 with
  | @lz _ _ _ _ _ b hb Jr=>
  split at hc
  ·rename_i cs hg;split at hc
   ·rename_i gi;have gi:=aad gi;subst gi;obtain ⟨vs,b1,b2,b3,b4⟩:=h.g.obj id _ _ hg hb;split at hc
    ·rename_i k bT es;split at hc
     ·rename_i K8;have Na:es=[]∨bT=sz:=by
       simp only [abG] at K8;rcases K8 with hs|hs
       ·exact .inr (aad hs)
       ·exact .inl (by simpa using hs)
      dsimp only at hc;split at hc
      ·rename_i hle;have hle:=aau hle;injection hc with hc; injection hc with p q;subst p; subst q;obtain ⟨x0,xs,x1,x2,x3,x4⟩:=jg (esz:=sz) h1 Na;have Hd:kz sz (es.take (aao es.length len)):=fun e he=>x0 e (abz he)
       have hnl:(aq (es.take (aao es.length len))).length=aao es.length len * sz:=by
        rw [fg Hd,abx,abA (abH _ _)]
       have Ye:aq es=aq (es.take (aao es.length len))++aq (es.drop (aao es.length len)):=by rw [← dw,aby]
       have fF:aP R w (aq (es.take (aao es.length len))) (xs.take (aao es.length len * sz)):=by
        have:=x1.take (aao es.length len * sz);rw [Ye,← hnl,List.take_left,hnl] at this;exact this
       have Ct:(xs.take (aao es.length len * sz)).length=aao es.length len * sz:=by rw [← fF.length,hnl]
       have wS:∀ v∈xs.take (aao es.length len * sz),v.oneCell'=true:=fun v hv=>x2 v (abz hv)
       have yp:(abM cx).run E.P w=.ok es.length w∧(abn sz (aao es.length len) cx).run E.P w=.ok ⟨xs.take (aao es.length len * sz)⟩ w:=by
        rcases x4 with ⟨rfl,rfl,ad,rfl,_⟩|⟨b',o',Lf,rfl,_,_,hJ,_⟩
        ·exact ⟨rfl,by cases ad <;> simp [abn,loadCells,loadCellsFrom]⟩
        ·refine ⟨rfl,?_⟩;exact run_firstCells_some (P:=E.P) w sz _ ⟨b',o',none⟩ es.length Lf _ Ct (fun j v hv=>hJ j v (by rw [abB] at hv; split at hv <;> first | exact hv | cases hv))
       have bK:=ug (P:=E.P) (tl:=tl) (ty:=o.type) (off:=off) (cap:=cap) e2 f1 f2 b1 yp.1 rfl yp.2 (by rw [Ct,← hnl,← b2.length]; exact hle) wS;obtain ⟨r1,r2⟩:=h.setRow hg hb b1 (b2.cu fF hle) (kd b3 wS);exact ⟨_,_,_,R,β,gS bK,.inl rfl,r1.put o.dst (x:=.v (.int .i64 (aao es.length len))) (Rel.int _ _),by rw [bf]; exact r2⟩
      ·cases hc
     ·cases hc
    ·rename_i bs;split at hc
     ·rename_i c8;rw [aaO] at c8;have WE:=aad c8.1;subst WE;have hle:=aau c8.2;injection hc with hc; injection hc with p q;subst p; subst q;cases h1;have hbl:(bs.take (aao bs.length len)).length=aao bs.length len:=by rw [abx,abA (abH _ _)]
      have R6:((bs.take (aao bs.length len)).map tM).length=(bs.take (aao bs.length len)).length:=abI _;have fF:aP R w ((bs.take (aao bs.length len)).map tM) ((bs.take (aao bs.length len)).map fun b=>abO .u8 b.toNat):=by
       generalize bs.take (aao bs.length len)=l
       induction l with
       |nil=>exact .nil
       |cons b l ih=>exact .cons (Rel.int .u8 b.toNat) ih
      have wS:∀ v∈(bs.take (aao bs.length len)).map (fun b:UInt8=>abO .u8 b.toNat),v.oneCell'=true:=fun v hv=>by
       obtain ⟨b,_,rfl⟩:=abP.1 hv;rfl
      have Ct:((bs.take (aao bs.length len)).map fun b:UInt8=>abO .u8 b.toNat).length=(bs.take (aao bs.length len)).length:=abI _;have yp:(abn 1 (aao bs.length len) (.string ⟨⟨bs⟩⟩)).run E.P w=.ok ⟨(bs.take (aao bs.length len)).map fun b:UInt8=>abO .u8 b.toNat⟩ w:=by
       simp [abn]
      have bK:=ug (P:=E.P) (tl:=tl) (ty:=o.type) (off:=off) (cap:=cap) (src:=.string ⟨⟨bs⟩⟩) (sLen:=bs.length) e2 f1 f2 b1 rfl rfl yp (by rw [Ct,← b2.length]; exact hle) wS;obtain ⟨r1,r2⟩:=h.setRow hg hb b1 (b2.cu fF (by rw [R6]; exact hle)) (kd b3 wS);exact ⟨_,_,_,R,β,gS bK,.inl rfl,r1.put o.dst (x:=.v (.int .i64 (aao bs.length len))) (Rel.int _ _),by rw [bf]; exact r2⟩
     ·cases hc
    ·rename_i kV gX bT Hq Lf;split at hc
     ·rename_i cs' sk;dsimp only at hc;split at hc
      ·rename_i l agz;split at hc
       ·rename_i c8;simp only [aaO] at c8;have hle:=aau c8.2;injection hc with hc; injection hc with p q;subst p; subst q;cases h1 with
        | @lz _ _ _ _ _ b' ka hlc'=>
        obtain ⟨vs',c1,c2,c3,c4⟩:=h.g.obj kV _ _ sk ka;obtain ⟨s1,s2,s3,s4⟩:=rI agz c2 c3;have Ct:=s2.length;have yp:=run_firstCells_some (P:=E.P) w sz (aao Hq len) ⟨b',gX,none⟩ Hq Lf _ (by rw [← Ct,s1]) (fun j v hv=>by rw [cZ,kC c1]; exact s4 j v hv);have bK:=ug (P:=E.P) (tl:=tl) (ty:=o.type) (off:=off) (cap:=cap) e2 f1 f2 b1 (src:=.slice (some ⟨b',gX,none⟩) Hq Lf) (sLen:=Hq) rfl rfl yp (by rw [← Ct,← b2.length]; exact hle) s3;obtain ⟨r1,r2⟩:=h.setRow hg hb b1 (b2.cu s2 hle) (kd b3 s3);exact ⟨_,_,_,R,β,gS bK,.inl rfl,r1.put o.dst (x:=.v (.int .i64 (aao Hq len))) (Rel.int _ _),by rw [bf]; exact r2⟩
       ·cases hc
      ·cases hc
     ·cases hc
    ·cases hc
   ·cases hc
  ·cases hc
 ·-- to a slice that grows
  rename_i id f' off sz len;split at hc
  ·rename_i es bT el k szx xs hg;split at hc
   ·rename_i c8;simp only [aaO,abG] at c8;obtain ⟨⟨⟨⟨⟨q1,q2⟩,q3⟩,q4⟩,q5⟩,q6⟩:=c8;have q1:=aad q1;have q2:=aad q2;have X3:f'=es.length:=Nat.le_antisymm (aau q4) (aau q5);have q6:=aau q6;subst q1; subst q2;injection hc with hc; injection hc with p q;subst p; subst q;have Na:xs=[]∨szx=bT:=by
     rcases q3 with hs|hs
     ·exact .inr (aad hs)
     ·exact .inl (by simpa using hs)
    obtain ⟨x0,ws,x1,x2,x3,x4⟩:=jg (esz:=bT) h1 Na;have Hd:fc bT (xs.take (aao xs.length len)):=Cq _ x0.g;have htl:(xs.take (aao xs.length len)).length=aao xs.length len:=by rw [abx,abA (abH _ _)]
    have fF:aP R w (aq (xs.take (aao xs.length len))) (ws.take (aao xs.length len * bT)):=by
     rw [kE _ x0.g];exact x1.take _
    have Ct:(ws.take (aao xs.length len * bT)).length=aao xs.length len * bT:=by rw [← fF.length,dU Hd,htl]
    have wS:∀ v∈ws.take (aao xs.length len * bT),v.oneCell'=true:=fun v hv=>x2 v (abz hv)
    have yp:(abM cx).run E.P w=.ok xs.length w∧(abn bT (aao xs.length len) cx).run E.P w=.ok ⟨ws.take (aao xs.length len * bT)⟩ w:=by
     rcases x4 with ⟨rfl,rfl,ad,rfl,_⟩|⟨b',o',Lf,rfl,_,_,hJ,_⟩
     ·exact ⟨rfl,by cases ad <;> simp [abn,loadCells,loadCellsFrom]⟩
     ·refine ⟨rfl,?_⟩;exact run_firstCells_some (P:=E.P) w bT _ ⟨b',o',none⟩ xs.length Lf _ Ct (fun j v hv=>hJ j v (by rw [abB] at hv; split at hv <;> first | exact hv | cases hv))
    by_cases DA:aao xs.length len=0
    ·have Nb:∃ base cap,cd=.slice base len cap:=by
      cases h0 with
      |jX=>exact ⟨_,_,rfl⟩
      |dM=>exact ⟨_,_,rfl⟩
     obtain ⟨base,cap,rfl⟩:=Nb;have R8:=yp.2;rw [DA] at R8;simp only [Nat.zero_mul,abJ] at R8;have agA:∀ a:Addr,(storeCells a []).run E.P w=.ok () w:=fun a=>by simp [storeCells]
     have bK:(abt ⟨t :: tl⟩ o.type #[.slice base len cap,cx]).run E.P w=.ok (.int .i64 (0:Nat)) w:=by
      cases base with
      |none=>simp [abt,run_underlying e2,run_sizeOf w f1,f2,yp.1,DA,R8,goInt]
      |some ad=>simp [abt,run_underlying e2,run_sizeOf w f1,f2,yp.1,DA,R8,goInt,agA]
     have hG:s.cP (aG s.G id (.dv (cu es off (xs.take (aao xs.length len))) bT el))=s:=by
      rw [DA,abJ,fY _ _ _ (by simp; omega)];simp only [List.append_nil,List.length_nil,abF,aby];rw [kA hg];rfl
     rw [hG,DA];exact ap h (gS bK) (Rel.int .i64 _)
    ·cases h0 with
     |jX=>exact absurd (Nat.le_zero.1 (Nat.min_le_right _ _)) DA
     | @dM _ _ _ _ _ cap b o' ro ca dS jK=>
     obtain ⟨b',c',cur,vs,rfl,g1,g2,g3,g4,g5,g6,g7,g8,g9⟩:=ng h.g hg ca (fun k=>by subst k; exact dS);obtain ⟨rfl,Mw,vg⟩:=dS.2 X3;have R6:=Nat.min_le_right xs.length len;have pf:o'=off * bT:=by
      rcases vg with vg|vg
      ·exact vg
      ·exact absurd (by show aao xs.length len=0; omega) DA
     subst pf;have Rp:es.length * bT≤cur.toList.length:=by
      rw [show cur.toList.length=cur.size from abN,g5];exact abr _ g3
     have hle:off * bT+aao xs.length len * bT≤es.length * bT:=by rw [← Nat.add_mul]; exact abr _ q6
     have bK:=ug (P:=E.P) (tl:=tl) (ty:=o.type) (vs:=cur.toList) (off:=off * bT) (cap:=cap) (len:=len) e2 f1 f2 g2 yp.1 rfl yp.2 (by rw [Ct]; omega) wS;obtain ⟨r1,r2⟩:=h.Jx (off:=off) hg ca g2 g1 g3 g5 g7 g8 g9 (by rw [htl]; exact q6) Hd fF wS;exact ⟨_,_,_,R,β,gS bK,.inl rfl,r1.put o.dst (x:=.v (.int .i64 (aao xs.length len))) (Rel.int _ _),by rw [bf]; exact r2⟩
   ·cases hc
  ·cases hc
 ·cases hc
theorem HU (h:bq E R w β s a) {args:Array Operand} {t:TypeId} (ho:o.op=.call { callee:=.builtin .clear,args:=args,argTypes:=#[t] }) (hd:o.dst=none) {id f' off sz len:Nat}
  (hl:oR E s.ab args.toList=some [.dM id f' off sz len]) {i:TI} (hi:E.ti t=some i) {elem esz eb:Nat} {ag:Bool} {z:AV} (hk:i.k=.sl elem esz ag eb (some z)) {es:List AV} {el:TypeId} (hg:nth s.G id=some (.dv es sz el))
  (gi:sz=esz) (rH:el=elem) (hz:z.cells.length=esz) (tF:z.ba=true) (vf:z.closed=true) (X3:f'=es.length) (WK:off+len≤es.length) :
  cz E R w β s a o (s.cP (aG s.G id (.dv (cu es off (abo len z)) sz el))):=by
 have hr:=iW h hl;generalize hv:args.toList.map a.eval=vs at hr;have hx:=gu (E:=E) (w:=w) ho vs hv;cases hr with
 | @cons _ cd _ _ h0 h1=>
 cases h1;obtain ⟨je,ud,e1,e2,e3,e4,e5,e6⟩:=cJ E hi;rw [hk] at e5;obtain ⟨ie,ue,rfl,f1,f2,f3,f4,f5,f6⟩:=fB e5;obtain ⟨zc,agB,Hc⟩:=dR f6;have gS:∀ {c:Value} {w':World},(abu #[t] o.type #[cd]).run E.P w=.ok c w'→(execOp a.eval o).run E.P w=.ok (.value c) w':=fun hh=>by
  rw [hx];simp only [builtin,abj,hh,aaY,abq]
 subst gi; subst rH;by_cases DA:len=0
 ·subst DA;have Nb:∃ base cap,cd=.slice base 0 cap:=by
   cases h0 with
   |jX=>exact ⟨_,_,rfl⟩
   |dM=>exact ⟨_,_,rfl⟩
  obtain ⟨base,cap,rfl⟩:=Nb;have bK:(abu #[t] o.type #[.slice base 0 cap]).run E.P w=.ok (.tuple #[]) w:=by
   cases base <;> simp [abu,run_underlying e2]
  have hG:s.cP (aG s.G id (.dv (cu es off (abo 0 z)) sz el))=s:=by
   rw [List.replicate_zero,fY _ _ _ (by simpa using WK)];simp only [List.append_nil,List.length_nil,abF,aby];rw [kA hg];rfl
  rw [hG];have:=ap (s:=s) (sv:=.v (.bu [])) h (gS bK) (Rel.bu (R:=R) (w:=w) .nil);rw [hd] at this;exact this
 ·cases h0 with
  |jX=>exact absurd rfl DA
  | @dM _ _ _ _ _ cap b o' ro ca dS jK=>
  obtain ⟨b',c',cur,vs,rfl,g1,g2,g3,g4,g5,g6,g7,g8,g9⟩:=ng h.g hg ca (fun k=>by subst k; exact dS);obtain ⟨rfl,Mw,vg⟩:=dS.2 X3;have pf:o'=off * sz:=by
   rcases vg with vg|vg
   ·exact vg
   ·omega
  subst pf;obtain ⟨z1,z2⟩:=oo (Hc R w) tF len;have hzl:zc.cells.size=sz:=by rw [← hz,(Rel.cells (Hc R w) tF).1.length]; simp
  have zk:(abR zc.cells len).toList=(abo len zc.cells.toList).flatten:=by
   simpa [abR] using qu zc.cells len
  have X4:((abo len zc.cells.toList).flatten).length=len * sz:=by rw [← z1.length,fg (gZ hz tF vf),abK]
  have Rp:es.length * sz≤cur.toList.length:=by
   rw [show cur.toList.length=cur.size from abN,g5];exact abr _ g3
  have hle:off * sz+len * sz≤es.length * sz:=by rw [← Nat.add_mul]; exact abr _ WK
  have mP:=run_storeCells_at (P:=E.P) b (off * sz) el (abo len zc.cells.toList).flatten 0 ⟨cur.toList⟩ w g2 (by rw [X4]; simp only [List.size_toArray]; omega) z2;simp only [abF] at mP;have bK:(abu #[t] o.type #[.slice (some ⟨b,off * sz,none⟩) len cap]).run E.P w=.ok (.tuple #[]) (w.setRow b ⟨cur.toList.take (off * sz)++(abo len zc.cells.toList).flatten++cur.toList.drop (off * sz+((abo len zc.cells.toList).flatten).length)⟩):=by
   obtain ⟨m,rfl⟩:∃ m,len=m+1:=⟨len - 1,by omega⟩;simp only [abu];simp [run_underlying e2,iQ w f1 agB,zk,mP]
  obtain ⟨r1,r2⟩:=h.Jx (off:=off) (ns:=abo len z) hg ca g2 g1 g3 g5 g7 g8 g9 (by rw [abK]; exact WK) (gZ hz tF vf).g z1 z2;exact ⟨_,.tuple #[],_,R,β,gS bK,.inl rfl,by rw [hd]; exact r1,r2⟩
theorem Fp {f:FuncId} {s':St} (h:bq E R w β s a) (hs:an E f s o=some (true,s')):cz E R w β s a o s':=by
 unfold an at hs;split at hs
 ·rename_i x ho;split at hs
  ·rename_i y hy;cases hs;exact lN h x (.inl ho) hy
  ·rename_i k off hy;cases hs;exact lN h x (.inl ho) hy
  ·rename_i hy;cases hs;exact lN h x (.inl ho) hy
 ·rename_i x ho;split at hs
  ·rename_i y hy;cases hs;exact lN h x (.inr ho) hy
  ·rename_i k off hy;cases hs;exact lN h x (.inr ho) hy
  ·rename_i hy;cases hs;exact lN h x (.inr ho) hy
 ·rename_i c x y ho;split at hs
  ·rename_i t p q h1 h2 h3;cases hs;exact KY h c x y ho h1 h2 h3
  ·cases hs
 ·rename_i t ho;split at hs
  ·rename_i i hi;split at hs
   ·rename_i z hz;split at hs
    ·rename_i hn;exact Hw h t ho hi hz hn hs
    ·cases hs
   ·cases hs
  ·cases hs
 ·rename_i t x ho;split at hs
  ·rename_i v hv;split at hs
   ·rename_i hn;exact MO h t x ho hv hn hs
   ·cases hs
  ·cases hs
 ·rename_i t parts ho;split at hs
  ·rename_i v hv;cases hs;exact HB h t parts ho hv
  ·cases hs
 ·rename_i t len parts ho;split at hs
  ·rename_i v hv;cases hs;exact xM h t len parts ho hv
  ·cases hs
 ·rename_i t x ho;split at hs
  ·rename_i c v hv;injection hs with hs; injection hs with h1 h2;subst h1; subst h2;exact HH h t x ho hv
  ·cases hs
 ·rename_i t p x ho;split at hs
  ·rename_i c Fa hd mP;injection hs with hs; injection hs with h1 h2;subst h1; subst h2;exact E9 h t p x ho hd mP
  ·cases hs
 ·rename_i op t x y u ho;split at hs
  ·rename_i p q hx hy;split at hs
   ·rename_i c v hv;injection hs with hs; injection hs with h1 h2;subst h1; subst h2;exact Hz h op t u x y ho hx hy hv
   ·rename_i hb;split at hs
    ·rename_i r hr;injection hs with hs; injection hs with h1 h2;subst h2;exact MQ h op t u x y ho hx hy hb hr
    ·cases hs
  ·cases hs
 ·rename_i op t x ho;split at hs
  ·rename_i b hx;cases hs;exact MR h t x ho hx
  ·rename_i k n hx;cases hs;exact MS h t x ho hx
  ·cases hs
 ·rename_i t u x ho;split at hs
  ·rename_i c v hc;injection hs with hs; injection hs with h1 h2;subst h1; subst h2;exact DM h t u x ho hc
  ·cases hs
 ·rename_i x ho;split at hs
  ·rename_i id off hx;cases hs;exact sD h x ho hx (.inl ⟨_,_,rfl⟩)
  ·rename_i k off hx;cases hs;exact sD h x ho hx (.inr ⟨_,_,rfl⟩)
  ·cases hs
 ·rename_i g x y ho;split at hs
  ·rename_i p q hp hq;cases hs;exact BG h g x y ho hp hq
  ·cases hs
 ·rename_i t x j ho;split at hs
  ·rename_i q hq;cases hs;exact zd h t x j ho hq
  ·cases hs
 ·rename_i t x j ho;split at hs
  ·rename_i v hv;cases hs;exact Hx h t x j ho hv
  ·cases hs
 ·rename_i t x ix ho;split at hs
  ·rename_i c q hq;injection hs with hs; injection hs with h1 h2;subst h1; subst h2;exact ze h t x ix ho hq
  ·cases hs
 ·rename_i t x ix ho;split at hs
  ·rename_i c v hv;injection hs with hs; injection hs with h1 h2;subst h1; subst h2;exact Hy h t x ix ho hv
  ·cases hs
 ·rename_i t x lo hi mx ho;split at hs
  ·rename_i l h' hl hh;split at hs
   ·rename_i c v hv;injection hs with hs; injection hs with h1 h2;subst h1; subst h2;cases mx with
    |none=>exact HC h t x lo hi ho hl hh hv
    |some m=>
     unfold Dw at hv;split at hv
     ·rename_i hmx;cases hmx
     ·cases hv
   ·cases hs
  ·cases hs
 ·rename_i x j ho;split at hs
  ·rename_i vs hx;split at hs
   ·rename_i v hn;cases hs;exact DC h x j ho hx hn
   ·cases hs
  ·cases hs
 ·rename_i t x y ho;split at hs
  ·rename_i i k n k' m hi hx hy;split at hs
   ·rename_i elem esz ag eb z hk;split at hs
    ·rename_i c8;simp only [aaO] at c8;split at hs
     ·split at hs
      ·rename_i vf;injection hs with hs; injection hs with h1 h2;subst h2;exact xO h t x y ho hi hx hy hk (aad c8.1.1) (aau c8.1.2) c8.2 vf (of_decide_eq_true h1)
      ·cases hs
     ·injection hs with hs; injection hs with h1 h2;subst h2;exact zm h t x y ho hi hx hy hk (aad c8.1.1) (aau c8.1.2) c8.2 (of_decide_eq_true h1)
    ·cases hs
   ·cases hs
  ·cases hs
 ·rename_i t m k ok ho;split at hs
  ·rename_i v b hv;cases hs;exact Fi h t m k ok ho hv
  ·cases hs
 ·rename_i t m k x ho;split at hs
  ·rename_i Fa hd hv;cases hs;exact qA h t m k x (.inl ho) hd hv
  ·cases hs
 ·rename_i t m k x ho;split at hs
  ·rename_i Fa hd hv;cases hs;exact qA h t m k x (.inr ho) hd hv
  ·cases hs
 ·rename_i x ho;split at hs
  ·rename_i c v hv;injection hs with hs; injection hs with h1 h2;subst h1; subst h2;exact HR h x ho hv
  ·cases hs
 ·rename_i t m k ho;split at hs
  ·rename_i c v Fa hv;injection hs with hs; injection hs with h1 h2;subst h1; subst h2;exact BI h t m k ho hv
  ·cases hs
 ·rename_i t m st x ho;split at hs
  ·rename_i c Fa hd hv;injection hs with hs; injection hs with h1 h2;subst h1; subst h2;exact xU h t m st x ho hd hv
  ·cases hs
 ·rename_i t x ho;split at hs
  ·rename_i i l hi hx;split at hs
   ·rename_i hk;cases hs;exact HN h t x ho hi hk hx
   ·cases hs
  ·rename_i i id hi hx;split at hs
   ·rename_i hk hg;cases hs;exact Fk h t x ho hi hk hx hg
   ·cases hs
  ·cases hs
 ·rename_i x ho;split at hs
  ·rename_i Fa hv;cases hs;exact Lb h x ho hv
  ·cases hs
 ·rename_i t ho;cases hs;exact DG h t ho
 ·rename_i b args tys ho;split at hs
  ·rename_i r hf;cases hs;exact HS h hf
  ·split at hs
   ·rename_i l hl;have CA:tys=⟨tys.toList⟩:=rfl;cases b with
    |len=>
     exact MW h (tys:=tys.toList) (by rw [ho]) hl hs
    |append=>
     unfold bU at hs;split at hs <;> first | (rename_i hb; cases hb; done) | skip
     ·rename_i x k sz ys;split at hs
      ·rename_i t u HV;split at hs
       ·rename_i i hi;split at hs
        ·rename_i elem esz ag eb z hk;split at hs
         ·rename_i c8;simp only [aaO,abG] at c8;obtain ⟨⟨⟨⟨⟨c1,c2⟩,c3⟩,c4⟩,c5⟩,c6⟩:=c8;split at hs
          ·rename_i c v G' ha;injection hs with hs; injection hs with h1 h2;subst h1; subst h2;have htu:=aad c2;subst htu;have HW:tys=#[t,t]:=by rw [CA,HV]
           rw [HW] at ho;refine Fe h ho hl hi hk ?_ (aau c3) (aau c4) (aad c5) c6 ha;rcases c1 with c1|c1
           ·exact .inr (aad c1)
           ·exact .inl (by simpa using c1)
          ·cases hs
         ·cases hs
        ·cases hs
       ·cases hs
      ·cases hs
     ·rename_i x bs;split at hs
      ·rename_i t u HV;split at hs
       ·rename_i i j hi hj;split at hs
        ·rename_i elem esz ag eb z hk hjk;split at hs
         ·rename_i c8;simp only [aaO] at c8;obtain ⟨⟨⟨c1,c2⟩,c3⟩,c4⟩:=c8;split at hs
          ·rename_i c v G' ha;injection hs with hs; injection hs with h1 h2;subst h1; subst h2;have c1:=aad c1;subst c1;have HW:tys=#[t,u]:=by rw [CA,HV]
           rw [HW] at ho;exact xT h ho hl hi hj hk hjk (aau c2) (aad c3) c4 ha
          ·cases hs
         ·cases hs
        ·cases hs
       ·cases hs
      ·cases hs
     ·cases hs
    |copy=>
     unfold bU at hs;split at hs <;> first | (rename_i hb; cases hb; done) | skip
     ·rename_i d x;split at hs
      ·rename_i t tl HV;split at hs
       ·rename_i i hi;split at hs
        ·rename_i elem esz ag eb z hk;split at hs
         ·rename_i n G' hc;injection hs with hs; injection hs with h1 h2;subst h2;have HW:tys=⟨t :: tl⟩:=by rw [CA,HV]
          rw [HW] at ho;exact Le h ho hl hi hk hc
         ·cases hs
        ·cases hs
       ·cases hs
      ·cases hs
     ·cases hs
    |clear=>
     unfold bU at hs;split at hs <;> first | (rename_i hb; cases hb; done) | skip
     ·split at hs
      ·rename_i t id f' off sz len hd HV;split at hs
       ·rename_i i es bT el hi hg;split at hs
        ·rename_i elem esz ag eb z hk;split at hs
         ·rename_i c8;simp only [aaO] at c8;obtain ⟨⟨⟨⟨⟨c1,c2⟩,c3⟩,c4⟩,c5⟩,c6⟩:=c8;have c1:=aad c1;have c2:=aad c2;have c3:=aad c3;have c4:=aad c4;injection hs with hs; injection hs with h1 h2;subst h2;rw [aaO,decide_eq_true_eq,decide_eq_true_eq] at h1;have HW:tys=#[t]:=by rw [CA,HV]
          rw [HW] at ho;subst c2;exact HU h ho hd hl hi hk hg c1 c3 c4 c5 c6 h1.1 h1.2
         ·cases hs
        ·cases hs
       ·cases hs
      ·cases hs
     ·cases hs
    |max=>
     unfold bU at hs;split at hs <;> first | (rename_i hb; cases hb; done) | skip
     ·rename_i x l';split at hs
      ·rename_i v hm;cases hs;exact MX h ho hl hm
      ·cases hs
     ·cases hs
    |min=>
     unfold bU at hs;split at hs <;> first | (rename_i hb; cases hb; done) | skip
     ·rename_i x l';split at hs
      ·rename_i v hm;cases hs;exact MY h ho hl hm
      ·cases hs
     ·cases hs
    |_=>
     unfold bU at hs;split at hs <;> first | (rename_i hb; cases hb; done) | (cases hs; done)
   ·cases hs
 ·cases hs
def ak.all (R:ak) (b:Nat):ak:=⟨fun b' o=>R.I b' o∨b'=b,R.obj⟩
theorem rL (R:ak) (w:World) (b:Nat):Ext R w (R.all b) w:=⟨fun _ _ h=>.inl h,fun _ _ _=>rfl,fun _ ro h=>⟨ro,h,cV.refl ro⟩,iJ.refl w⟩
theorem eI.freeze {G:List GO} (h:eI E R w G) {id b:Nat} {ro:RO} (ca:nth R.obj id=some ro) (hb:ro.has b) (acO:iP (R.all b) w .dead ro):eI E (R.all b) w (aG G id .dead):=by
 have e:=rL R w b;have bY:=h.cj ⟨id,ro,ca,hb⟩;refine ⟨by show R.obj.length=_; rw [jr]; exact h.len,fun kV go od q1 q2=>?_,h.inj,fun b' o ho=>?_,fun g cs sU=>(h.cw g cs sU).mono e,h.lo⟩
 ·rcases dW q1 with ⟨rfl,rfl,_⟩|⟨cK,q1⟩
  ·have:od=ro:=abZ (q2.symm.trans ca);subst this;exact acO
  ·refine (h.obj kV go od q1 q2).mono e (fun _ _=>rfl) (fun b' o ka ho=>?_);rcases ho with ho|ho
   ·exact ho
   ·subst ho;exact absurd (h.inj id kV _ _ b' ca q2 hb ka) cK
 ·rcases ho with ho|ho
  ·exact h.wf b' o ho
  ·subst ho; exact bY
theorem qB:∀ {l:List AV} {x:AV},bg l=true→x∈l→x.closed=true
 |[],_,_,h=>by simp at h
 |a :: l,x,h,hx=>by
  simp only [bg,aaO] at h;rcases List.mem_cons.1 hx with rfl|hx
  ·exact h.1
  ·exact qB h.2 hx
theorem uh:∀ l r:List AV,mY (l++r)=mY l++mY r
 |[],_=>rfl
 |a :: l,r=>by simp only [List.cons_append,mY,uh l r]
theorem ui:∀ l:List AV,(mY l).length=l.length
 |[]=>rfl
 |a :: l=>by simp only [mY,List.length_cons,ui l]
theorem zz (e:AV):e.jc.cells=mY e.cells:=by
 cases e with
 |list k sz es=>cases k <;> simp only [AV.jc,AV.cells,mY]
 |_=>simp only [AV.jc,AV.cells,mY]
theorem Fq (e:AV):e.jc.ba=e.ba:=by
 cases e with
 |list k sz es=>cases k <;> simp only [AV.jc,AV.ba]
 |_=>simp only [AV.jc,AV.ba]
theorem wT:∀ es:List AV,aq (es.map AV.jc)=mY (aq es)
 |[]=>rfl
 |e :: es=>by simp only [List.map_cons,aq,zz,wT es,uh]
theorem R9 {wk:Bool} {es:List AV} {vs:List Value} (h:aP R w (aq es) vs):aP R w (aq (Cf wk es)) vs:=by
 cases wk with
 |false=>exact h
 |true=>
  show aP R w (aq (es.map AV.jc)) vs;rw [wT];exact h.jc
theorem HX (wk:Bool) (es:List AV):(Cf wk es).length=es.length:=by
 cases wk
 ·rfl
 ·exact abI _
theorem Nc (wk:Bool) (n:Nat) (es:List AV):Cf wk (es.take n)=(Cf wk es).take n:=by
 cases wk
 ·rfl
 ·exact List.map_take
theorem JD (wk:Bool):Cf wk []=[]:=by cases wk <;> rfl
theorem Nd {wk:Bool} {sz:Nat} {es:List AV} (h:fc sz es) (hc:bg (Cf wk es)=true):kz sz (Cf wk es):=by
 cases wk with
 |false=>exact fun x hx=>⟨(h x hx).1,(h x hx).2,qB hc hx⟩
 |true=>
  intro x hx;refine ⟨?_,?_,qB hc hx⟩
  ·obtain ⟨y,hy,rfl⟩:=abP.1 hx;rw [zz,ui];exact (h y hy).1
  ·obtain ⟨y,hy,rfl⟩:=abP.1 hx;rw [Fq];exact (h y hy).2
theorem pj {wk:Bool} {G:List GO} (h:eI E R w G) {id f sz len:Nat} {es:List AV} {el:TypeId} (hid:nth G id=some (.dv es sz el)) (hf:f=es.length) (hl:len≤es.length) (jN:bg (Cf wk es)=true) {ro:RO} (ca:nth R.obj id=some ro) :
  ∃ R',eI E R' w (aG G id .dead)∧Ext R w R' w∧R'.obj=R.obj∧(∀ b o,R'.I b o→R.I b o∨ro.has b)∧∀ c,Rel R w (.dM id f 0 sz len) c→Rel R' w (.list .lM sz (Cf wk (es.take len))) c:=by
 by_cases hn:ro=.bS
 ·subst hn;have he:es=[]:=h.obj id _ _ hid ca;subst he;refine ⟨R,?_,Ext.refl R w,rfl,fun _ _ hi=>.inl hi,fun c hc=>?_⟩
  ·refine ⟨by rw [jr]; exact h.len,fun kV go od q1 q2=>?_,h.inj,h.wf,h.cw,h.lo⟩;rcases dW q1 with ⟨rfl,rfl,_⟩|⟨cK,q1⟩
   ·have:od=.bS:=abZ (q2.symm.trans ca);subst this;trivial
   ·exact h.obj kV go od q1 q2
  ·rw [List.take_nil,JD];cases hc with
   |jX=>exact .j9
   |dM h1 h2 _=>
    rw [ca] at h1;cases h1;exact h2.elim
 ·obtain ⟨b,c',cur,vs,rfl,g0,g2,g3,g4,g5,g6,g7,g8,g9⟩:=ng h hid ca hn;have g1:kz sz (Cf wk es):=Nd g0 jN;have e:=rL R w b;refine ⟨R.all b,h.freeze ca rfl (bo g2),e,rfl,fun b' o hi=>?_,fun c hc=>?_⟩
  ·rcases hi with hi|rfl
   ·exact .inl hi
   ·exact .inr rfl
  ·cases hc with
   |jX h1 h2=>
    rw [ca] at h1;cases h1;simp only [oV] at h2;omega
   | @dM _ _ _ _ _ cap b1 o1 _ h1 h2 h3=>
    rw [ca] at h1;cases h1;obtain ⟨rfl,k2,k3⟩:=h2.2 hf;by_cases zl:len=0
    ·subst zl;rw [abJ,JD];exact Rel.list .nil rfl h3 trivial
    rw [Nc];refine Rel.list (vr len (om g1 (fk.make ((R9 g7).mono e) g8 (fun j v hj=>?_) (fun j hj=>.inr rfl)))) (by rw [abx,HX,abA hl]) h3 trivial;have ho:o1=0:=by
     rcases k3 with k3|k3
     ·rw [k3,Nat.zero_mul]
     ·omega
    subst ho;rw [Nat.zero_add,cell_of_row w b1 j cur el (0,0) g2];rw [← g9,abB] at hj;split at hj
    ·rw [← Array.getElem?_toList]; exact hj
    ·cases hj
theorem uj {wk:Bool}:∀ {cs cs':List AV} {G G':List GO} {vs:List Value} {R:ak},eI E R w G→aP R w cs vs→n5 wk cs G=(true,cs',G') →
  ∃ R',eI E R' w G'∧aP R' w cs' vs∧Ext R w R' w∧R'.obj=R.obj∧∀ b o,R'.I b o→R.I b o∨Live R b
 |[],cs',G,G',vs,R,hg,hr,h=>by
  simp only [n5,abw,true_and] at h;obtain ⟨rfl,rfl⟩:=h;exact ⟨R,hg,hr,Ext.refl R w,rfl,fun _ _ h=>.inl h⟩
 |x :: l,cs',G,G',vs,R,hg,hr,h=>by
  cases hr with
  |cons h0 hr=>
  unfold n5 at h;split at h
  ·rename_i nX;cases nX
  ·rename_i id f sz len l1 nX;obtain ⟨rfl,rfl⟩:=List.cons.inj nX;split at h
   ·rename_i es bT el hid;generalize h2:n5 wk l _=q0 at h;obtain ⟨c',q⟩:=q0;obtain ⟨rs2,G2⟩:=q;simp only [abw,aaO,decide_eq_true_eq] at h;obtain ⟨⟨⟨⟨⟨hf,hlen⟩,gi⟩,jN⟩,rfl⟩,rfl,rfl⟩:=h;have gi:=aad gi;subst gi;obtain ⟨ro,ca⟩:∃ ro,nth R.obj id=some ro:=by
     cases h0 with
     |jX q _=>exact ⟨_,q⟩
     |dM q _ _=>exact ⟨_,q⟩
    obtain ⟨R1,r1,r2,r3,r4,r5⟩:=pj (wk:=wk) hg hid hf (Nat.le_of_eq hlen) jN ca;have r6:=r5 _ h0;rw [hlen,List.take_length] at r6;obtain ⟨R2,b1,b2,b3,b4,b5⟩:=uj r1 (hr.mono r2) h2;refine ⟨R2,b1,.cons (r6.mono b3) b2,r2.trans b3,b4.trans r3,fun b o ho=>?_⟩;rcases b5 b o ho with ho|ho
    ·exact (r4 b o ho).imp_right fun hb=>⟨id,ro,ca,hb⟩
    ·obtain ⟨i,r,q1,q2⟩:=ho;rw [r3] at q1;exact .inr ⟨i,r,q1,q2⟩
   ·generalize h2:n5 wk l _=q0 at h;obtain ⟨c',q⟩:=q0;simp only [abw] at h;cases h.1
  ·rename_i a l1 G1 cK nX;obtain ⟨rfl,rfl⟩:=List.cons.inj nX;generalize h2:n5 wk l _=q0 at h;obtain ⟨c',rs2,G2⟩:=q0;simp only [abw] at h;obtain ⟨rfl,rfl,rfl⟩:=h;obtain ⟨R2,b1,b2,b3,b4,b5⟩:=uj hg hr h2;exact ⟨R2,b1,.cons (h0.mono b3) b2,b3,b4,b5⟩
theorem wU {cut wk:Bool} {t:Tmp} {s':St} (h:bq E R w β s a) (hs:rG cut wk s t=some (true,s')):∃ R',bq E R' w β s' a∧Step R w β s.boxes R' w β s'.boxes∧s'.ro=s.ro:=by
 unfold rG at hs;split at hs
 ·rename_i id f off sz len ht;split at hs
  ·rename_i es bT el hid;split at hs
   ·rename_i c8;rw [aaO] at c8;have q1:=aad c8.1;have q2:=aad c8.2;subst q1; subst q2;injection hs with hs; injection hs with h1 h2;rw [aaO,aaO,decide_eq_true_eq] at h1;obtain ⟨⟨MV,Jr⟩,jN⟩:=h1;have hle:len≤es.length:=by
     cases cut with
     |true=>exact of_decide_eq_true Jr
     |false=>exact Nat.le_of_eq (of_decide_eq_true Jr)
    have Mt:Cf wk (bif cut then es.take len else es)=Cf wk (es.take len):=by
     congr 1;cases cut with
     |true=>rfl
     |false=>
      have:len=es.length:=of_decide_eq_true Jr;rw [this,List.take_length];rfl
    rw [Mt] at h2;subst h2;obtain ⟨c,k1,k2⟩:=h.t t (by rw [ht]; simp);rw [ht] at k2;obtain ⟨ro,ca⟩:∃ ro,nth R.obj id=some ro:=by
     have Rs:Rel R w (.dM id f 0 sz len) c:=k2;cases Rs with
     |jX q _=>exact ⟨_,q⟩
     |dM q _ _=>exact ⟨_,q⟩
    obtain ⟨R',r1,r2,r3,r4,r5⟩:=pj h.g hid MV hle jN ca;have Yf:∀ k cs,eF s.boxes k=some cs→¬ ro.has (β k):=fun k cs hk e=>(h.b.box k cs hk).2.2 ⟨id,ro,ca,e⟩
    refine ⟨R',⟨r1,?_,?_,h.n,h.d.mono r2⟩,⟨r2,rfl,rfl,rfl,abv _,fun _ _ _=>rfl,fun b hb ho=>?_,fun b o hi hb hn=>?_⟩,rfl⟩
    ·exact h.b.bJ r2 (fun _ _ _=>rfl) (fun k cs o hk hi=>(r4 _ o hi).resolve_right (Yf k cs hk)) (fun k cs hk hl=>by
      obtain ⟨i,r,l1,l2⟩:=hl;rw [r3] at l1;exact ⟨i,r,l1,l2⟩)
    ·intro i hi;by_cases e:t=i
     ·subst e;rw [aC];exact ⟨c,k1,r5 c k2⟩
     ·rw [aW e] at hi ⊢;obtain ⟨c',l1,l2⟩:=h.t i hi;exact ⟨c',l1,l2.mono r2⟩
    ·rcases ho with ⟨i,r,l1,l2⟩|ho
     ·rw [r3] at l1;exact .inl ⟨i,r,l1,l2⟩
     ·exact .inr ho
    ·rcases r4 b o hi with hi|hi
     ·exact hi
     ·exact absurd (.inl ⟨id,ro,ca,hi⟩) hn
   ·cases hs
  ·cases hs
 ·-- an object's cells never change again
  rename_i id ht;split at hs
  ·rename_i cs el hid;injection hs with hs; injection hs with h1 h2;subst h2;obtain ⟨c,k1,k2⟩:=h.t t (by rw [ht]; simp);rw [ht] at k2;have Rs:Rel R w (.ptr id 0) c:=k2;cases Rs with
   | @ptr _ _ b ca=>
   obtain ⟨vs,b1,b2,b3,b4⟩:=h.g.obj id _ _ hid ca;have r2:=rL R w b;have r1:=h.g.freeze ca rfl (show iP (R.all b) w .dead (.ck b) from bo b1);have Yf:∀ k cs,eF s.boxes k=some cs→β k≠b:=fun k cs hk e=>(h.b.box k cs hk).2.2 ⟨id,_,ca,by rw [e]; rfl⟩
   refine ⟨R.all b,⟨r1,?_,?_,h.n,h.d.mono r2⟩,⟨r2,rfl,rfl,rfl,abv _,fun _ _ _=>rfl,fun _ _ ho=>ho,fun b' o hi hb hn=>?_⟩,rfl⟩
   ·exact h.b.bJ r2 (fun _ _ _=>rfl) (fun k cs o hk hi=>hi.resolve_right (Yf k cs hk)) (fun _ _ _ hl=>hl)
   ·intro i hi;by_cases e:t=i
    ·subst e;rw [aC];refine ⟨_,k1,Rel.ep (fk.make (b2.mono r2) b3 (fun j v hv=>?_) (fun j _=>.inr rfl))⟩;rw [kC b1,Nat.zero_add];exact hv
    ·rw [aW e] at hi ⊢;obtain ⟨c',l1,l2⟩:=h.t i hi;exact ⟨c',l1,l2.mono r2⟩
   ·rcases hi with hi|rfl
    ·exact hi
    ·exact absurd (.inl ⟨id,_,ca,rfl⟩) hn
  ·cases hs
 ·-- the parts of a value
  rename_i cs ht;cases h2:n5 wk cs s.G with
  |mk c' q=>
  obtain ⟨cs',G'⟩:=q;rw [h2] at hs;injection hs with hs; injection hs with h3 hs;subst h3;subst hs;obtain ⟨c,k1,k2⟩:=h.t t (by rw [ht]; simp);rw [ht] at k2;have Rs:Rel R w (.agg cs) c:=k2;cases Rs with
  | @agg _ vs k3 k4=>
  obtain ⟨R',r1,r2,r3,r4,r5⟩:=uj h.g k3 h2;have live:∀ b,Live R' b→Live R b:=fun b ⟨i,r,q1,q2⟩=>⟨i,r,by rw [← r4]; exact q1,q2⟩
  refine ⟨R',⟨r1,?_,?_,h.n,h.d.mono r3⟩,⟨r3,rfl,rfl,rfl,abv _,fun _ _ _=>rfl,fun b hb ho=>?_,fun b o hi hb hn=>?_⟩,rfl⟩
  ·exact h.b.bJ r3 (fun _ _ _=>rfl) (fun k cs o hk hi=>(r5 _ o hi).resolve_right (h.b.box k cs hk).2.2) (fun k cs hk hl=>live _ hl)
  ·intro i hi;by_cases e:t=i
   ·subst e;rw [aC];exact ⟨_,k1,Rel.agg r2 k4⟩
   ·rw [aW e] at hi ⊢;obtain ⟨c',l1,l2⟩:=h.t i hi;exact ⟨c',l1,l2.mono r3⟩
  ·rcases ho with ho|ho
   ·exact .inl (live b ho)
   ·exact .inr ho
  ·rcases r5 b o hi with hi|hi
   ·exact hi
   ·exact absurd (.inl hi) hn
 ·cases hs
theorem js {cut wk:Bool}:∀ {l:List Operand} {R:ak} {s s':St},bq E R w β s a→iU cut wk l s=(true,s')→∃ R',bq E R' w β s' a∧Step R w β s.boxes R' w β s'.boxes∧s'.ro=s.ro
 |[],R,s,s',h,hs=>by
  simp only [iU] at hs;cases hs;exact ⟨R,h,Step.refl _ _ _ _,rfl⟩
 |.tmp t :: l,R,s,s',h,hs=>by
  unfold iU at hs;split at hs
  ·rename_i c s1 h1;cases h2:iU cut wk l s1 with
   |mk c' s2=>
   rw [h2] at hs;simp only [abw,aaO] at hs;obtain ⟨⟨rfl,rfl⟩,rfl⟩:=hs;obtain ⟨R1,k1,k2,k3⟩:=wU h h1;obtain ⟨R2,l1,l2,l3⟩:=js k1 h2;exact ⟨R2,l1,k2.trans l2,l3.trans k3⟩
  ·exact js h hs
 |.const _ :: l,R,s,s',h,hs=>js (l:=l) h hs
 |.global _ :: l,R,s,s',h,hs=>js (l:=l) h hs
 |.func _ :: l,R,s,s',h,hs=>js (l:=l) h hs
theorem Nf {f:FuncId} {s':St} (h:bq E R w β s a) (hs:KU E f s o=some (true,s')):∃ R',bq E R' w β s' a∧Step R w β s.boxes R' w β s'.boxes∧s'.ro=s.ro:=by
 unfold KU at hs;split at hs
 ·split at hs
  ·injection hs with hs;exact js h hs
  ·cases hs
 ·cases hs
end ops
end Go.Am
namespace Go.Am
open Go
structure aZ (s s':St):Prop where
 sl:∃ pre,s'.ab=pre++s.ab
 bx:∃ pre,s'.boxes=pre++s.boxes
 n:s'.n=s.n
theorem aZ.refl (s:St):aZ s s:=⟨⟨[],rfl⟩,⟨[],rfl⟩,rfl⟩
theorem aZ.trans {a b c:St} (h:aZ a b) (k:aZ b c):aZ a c:=by
 obtain ⟨p,hp⟩:=h.sl; obtain ⟨q,hq⟩:=k.sl; obtain ⟨p',hp'⟩:=h.bx; obtain ⟨q',hq'⟩:=k.bx;exact ⟨⟨q++p,by rw [hq,hp,List.append_assoc]⟩,⟨q'++p',by rw [hq',hp',List.append_assoc]⟩,k.n.trans h.n⟩
section
variable {E:Env} {R R':ak} {w w':World} {β β':Nat→Nat} {s s':St} {a a':Act}
def jh (R:ak):ak:=⟨R.I,R.obj++[.bS]⟩
theorem lQ:Ext R w (jh R) w:=⟨fun _ _ h=>h,fun _ _ _=>rfl,fun _ r h=>⟨r,dX h,cV.refl r⟩,iJ.refl w⟩
theorem s5 {b:Nat} (h:Live (jh R) b):Live R b:=by
 obtain ⟨id,r,h1,h2⟩:=h;rcases av h1 with h1|⟨_,rfl⟩
 ·exact ⟨id,r,h1,h2⟩
 ·simp [RO.has] at h2
def Yg (n sz:Nat):AV:=bif abE 65536 sz then .dM n 0 0 (sz - 65536) 0 else .list (.own n) sz []
def Ng (sz:Nat) (e:TypeId):GO:=bif abE 65536 sz then .dv [] (sz - 65536) e else .tok 0 sz e
theorem Sa (sz:Nat) (e:TypeId):iP R w (Ng sz e) .bS:=by
 unfold Ng;cases abE 65536 sz
 ·exact rfl
 ·exact rfl
theorem JE {n sz:Nat} (hn:nth R.obj n=some .bS):Rel R w (Yg n sz) (.slice none 0 0):=by
 unfold Yg;cases abE 65536 sz
 ·exact .oa hn trivial
 ·exact .jX hn trivial
theorem eI.JF {G:List GO} (h:eI E R w G) (sz:Nat) (e:TypeId):eI E (jh R) w (G++[Ng sz e]):=by
 refine ⟨by simp [jh,h.len],fun id g r h1 h2=>?_,fun i j ri rj b h1 h2 b1 b2=>?_,h.wf,fun g cs hg=>(h.cw g cs hg).mono lQ,h.lo⟩
 ·rcases av h2 with h2|⟨h3,rfl⟩
  ·rcases av h1 with h1|⟨h4,_⟩
   ·exact (h.obj id g r h1 h2).mono lQ (fun _ _=>rfl) (fun _ _ _ h=>h)
   ·have bY:=cg h2;rw [h.len] at bY;omega
  ·rcases av h1 with h1|⟨h4,rfl⟩
   ·have:=cg h1;rw [h3,h.len] at this;omega
   ·exact Sa sz e
 ·rcases av h1 with g1|⟨_,e1⟩
  ·rcases av h2 with g2|⟨_,e2⟩
   ·exact h.inj i j ri rj b g1 g2 b1 b2
   ·rw [e2] at b2; simp [RO.has] at b2
  ·rw [e1] at b1; simp [RO.has] at b1
theorem bq.JF (h:bq E R w β s a) (sz:Nat) (e:TypeId):bq E (jh R) w β (s.fj (Ng sz e)) a∧Step R w β s.boxes (jh R) w β s.boxes:=by
 refine ⟨⟨h.g.JF sz e,h.b.bJ lQ (fun _ _ _=>rfl) (fun _ _ _ _ h=>h) (fun _ _ _ hl=>s5 hl),h.t.mono lQ,h.n,h.d.mono (lQ (w:=w))⟩,?_⟩;refine ⟨lQ,rfl,rfl,rfl,abv _,fun _ _ _=>rfl,fun b _ ho=>?_,fun _ _ h _ _=>h⟩;rcases ho with ho|ho
 ·exact .inl (s5 ho)
 ·exact .inr ho
inductive Loc
 |slot (t:Tmp)
 |box (k i:Nat)
 |row (id i:Nat)
def qC (s:St) (l:Loc) (sz:Nat) (e:TypeId):Option St:=
 let v:AV:=Yg s.G.length sz
 match abE 196608 sz with
 |true=>some (s.fj (.bF [] (sz - 196608) e))
 |false=>match l with
 |.slot t=>match lk s.ab t with
  |.v (.list .nil _ [])=>some ⟨.put t (.v v) :: s.ab,s.boxes,s.G++[Ng sz e],s.marks,s.ro,s.n⟩
  |_=>none
 |.box k i=>match eF s.boxes k with
  |some cs=>match nth cs i with
   |some (.list .nil _ [])=>some ⟨s.ab,(k,aG cs i v) :: s.boxes,s.G++[Ng sz e],s.marks,s.ro,s.n⟩
   |_=>none
  |none=>none
 |.row id i=>match nth s.G id with
  |some (.row cs el)=>match nth cs i with
   |some (.list .nil _ [])=>some ⟨s.ab,s.boxes,aG s.G id (.row (aG cs i v) el)++[Ng sz e],s.marks,s.ro,s.n⟩
   |_=>none
  |_=>none
def ji:List (Loc × Nat × TypeId)→St→Option St
 |[],s=>some s
 |(l,sz,e) :: r,s=>match qC s l sz e with
  |some s'=>ji r s'
  |none=>none
theorem aP.aG {l:List AV} {cs:List Value} (h:aP R w l cs) {i:Nat} {x y:AV} (hx:nth l i=some x) (hw:∀ c,Rel R w x c→Rel R w y c):aP R w (Am.aG l i y) cs:=by
 induction l generalizing cs i with
 |nil=>simp [nth] at hx
 |cons a l ih=>
  cases h with
  |cons h t=>
   cases i with
   |zero=>simp only [nth] at hx; cases hx; exact .cons (hw _ h) t
   |succ i=>exact .cons h (ih t hx)
theorem bq.Yh (h:bq E R w β s a) (sz:Nat) (e:TypeId):bq E (R.add (.bF [])) w β (s.fj (.bF [] sz e)) a∧Step R w β s.boxes (R.add (.bF [])) w β s.boxes:=by
 have no:∀ b,¬ RO.has (.bF []) b:=fun b ⟨j,f,c,hj⟩=>by simp [nth] at hj
 have ext:Ext R w (R.add (.bF [])) w:=⟨fun _ _ h=>h,fun _ _ _=>rfl,fun _ r h=>⟨r,dX h,cV.refl r⟩,iJ.refl w⟩;have live:∀ b,Live (R.add (.bF [])) b→Live R b:=fun b ⟨id,r,h1,h2⟩=>by
  rcases av h1 with h1|⟨_,rfl⟩
  ·exact ⟨id,r,h1,h2⟩
  ·exact absurd h2 (no b)
 refine ⟨⟨⟨by simp [St.fj,ak.add,h.g.len],fun id g r h1 h2=>?_,fun i j ri rj b h1 h2 b1 b2=>?_,h.g.wf,fun g cs hg=>(h.g.cw g cs hg).mono ext,h.g.lo⟩,h.b.bJ ext (fun _ _ _=>rfl) (fun _ _ _ _ h=>h) (fun _ _ _ hl=>live _ hl),h.t.mono ext,h.n,h.d.mono ext⟩,?_⟩
 ·rcases av h2 with h2|⟨h3,rfl⟩
  ·rcases av h1 with h1|⟨h4,_⟩
   ·exact (h.g.obj id g r h1 h2).mono ext (fun _ _=>rfl) (fun _ _ _ h=>h)
   ·have bY:=cg h2;rw [h.g.len] at bY;omega
  ·rcases av h1 with h1|⟨h4,rfl⟩
   ·have:=cg h1;rw [h3,h.g.len] at this;omega
   ·exact ⟨rfl,fun i j f b c f' c' hi=>by simp [nth] at hi,fun j f t hj=>by simp [nth] at hj⟩
 ·rcases av h1 with g1|⟨_,e1⟩
  ·rcases av h2 with g2|⟨_,e2⟩
   ·exact h.g.inj i j ri rj b g1 g2 b1 b2
   ·rw [e2] at b2; exact absurd b2 (no b)
  ·rw [e1] at b1; exact absurd b1 (no b)
 ·refine ⟨ext,rfl,rfl,rfl,abv _,fun _ _ _=>rfl,fun b _ ho=>?_,fun _ _ h _ _=>h⟩;rcases ho with ho|ho
  ·exact .inl (live b ho)
  ·exact .inr ho
theorem Fs {l:Loc} {sz:Nat} {e:TypeId} (h:bq E R w β s a) (HY:abE 196608 sz=false) (hs:qC s l sz e=some s'):bq E (jh R) w β s' a∧Step R w β s.boxes (jh R) w β s'.boxes∧s'.ro=s.ro∧aZ s s':=by
 obtain ⟨h1,h2⟩:=h.JF sz e;have hn:nth (jh R).obj s.G.length=some .bS:=by
  rw [← h.g.len]; exact fW _ _
 have hw:∀ (bT:Nat) (c:Value),Rel (jh R) w (.list .nil bT []) c→Rel (jh R) w (Yg s.G.length sz) c:=fun bT c hc=>by
  cases hc with
  |mb=>exact JE hn
  |list _ _ _ hk=>exact hk.elim
 unfold qC at hs;rw [HY] at hs;cases l with
 |slot t=>
  simp only at hs;split at hs
  ·rename_i bT ht;cases hs;refine ⟨⟨h1.g,h1.b,fun i hi=>?_,h1.n,h1.d⟩,h2,rfl,⟨⟨[_],rfl⟩,⟨[],rfl⟩,rfl⟩⟩;by_cases e:t=i
   ·subst e;rw [aC];obtain ⟨c,k1,k2⟩:=h1.t t (by show lk s.ab t≠_; rw [ht]; simp);have Rs:si (jh R) w β (lk s.ab t) c:=k2;rw [ht] at Rs;exact ⟨c,k1,hw _ _ Rs⟩
   ·rw [aW e] at hi ⊢;exact h1.t i hi
  ·cases hs
 |box k i=>
  simp only at hs;split at hs
  ·rename_i cs hk;split at hs
   ·rename_i bT hi;cases hs;have hb:∀ k' cs',eF ((k,aG cs i (Yg s.G.length sz)) :: s.boxes) k'=some cs'→∃ cs0,eF s.boxes k'=some cs0:=fun k' cs' jf=>by
     rcases fX jf with ⟨rfl,_⟩|⟨_,jf⟩
     ·exact ⟨cs,hk⟩
     ·exact ⟨cs',jf⟩
    refine ⟨⟨h1.g,⟨fun k' cs' jf=>?_,fun k1 k2 c1 c2 e1 e2 he=>?_⟩,h1.t,h1.n,h1.d⟩,?_,rfl,⟨⟨[],rfl⟩,⟨[_],rfl⟩,rfl⟩⟩
    ·rcases fX jf with ⟨rfl,rfl⟩|⟨_,jf⟩
     ·obtain ⟨⟨vs,el,q1,q2,q3⟩,q4⟩:=h1.b.box k cs hk;exact ⟨⟨vs,el,q1,q2.aG hi (hw _),q3⟩,q4⟩
     ·exact h1.b.box k' cs' jf
    ·obtain ⟨d1,WM⟩:=hb k1 c1 e1;obtain ⟨d2,hd2⟩:=hb k2 c2 e2;exact h.b.inj k1 k2 d1 d2 WM hd2 he
    ·refine ⟨h2.ext,rfl,rfl,rfl,abv _,fun _ _ _=>rfl,fun b ka ho=>?_,fun _ _ h _ _=>h⟩;rcases ho with ho|⟨k',cs',jf,rfl⟩
     ·exact .inl (s5 ho)
     ·obtain ⟨d1,WM⟩:=hb k' cs' jf;exact .inr ⟨k',d1,WM,rfl⟩
   ·cases hs
  ·cases hs
 |row id i=>
  simp only at hs;split at hs
  ·rename_i cs el hid;split at hs
   ·rename_i bT hi;cases hs;refine ⟨⟨⟨by have:=h1.g.len; simpa [St.fj] using this,fun kV go ro q1 q2=>?_,h1.g.inj,h1.g.wf,h1.g.cw,h1.g.lo⟩,h1.b,h1.t,h1.n,h1.d⟩,h2,rfl,⟨⟨[],rfl⟩,⟨[],rfl⟩,rfl⟩⟩;rcases av q1 with q1|⟨q3,rfl⟩
    ·rcases dW q1 with ⟨rfl,rfl,_⟩|⟨cK,q1⟩
     ·have df:=h1.g.obj id (.row cs el) ro (dX hid) q2;cases ro with
      |ck b=>
       obtain ⟨vs,k1,k2,k3,k4⟩:=df;exact ⟨vs,k1,k2.aG hi (hw _),k3,k4⟩
      |none=>exact df.elim
      |bS=>exact df.elim
      |tok _ _ _=>exact df.elim
      |bF _=>exact df.elim
     ·exact h1.g.obj kV go ro (dX q1) q2
    ·refine h1.g.obj kV _ ro ?_ q2;rw [jr] at q3;rw [q3];exact fW _ _
   ·cases hs
  ·cases hs
theorem zA {l:Loc} {sz:Nat} {e:TypeId} (h:bq E R w β s a) (hs:qC s l sz e=some s'):∃ R',bq E R' w β s' a∧Step R w β s.boxes R' w β s'.boxes∧s'.ro=s.ro∧aZ s s':=by
 cases HY:abE 196608 sz with
 |true=>
  unfold qC at hs;rw [HY] at hs;cases hs;obtain ⟨h1,h2⟩:=h.Yh (sz - 196608) e;exact ⟨_,h1,h2,rfl,⟨⟨[],rfl⟩,⟨[],rfl⟩,rfl⟩⟩
 |false=>exact ⟨_,Fs h HY hs⟩
theorem mg:∀ {l:List (Loc × Nat × TypeId)} {R:ak} {s s':St},bq E R w β s a→ji l s=some s'→∃ R',bq E R' w β s' a∧Step R w β s.boxes R' w β s'.boxes∧s'.ro=s.ro∧aZ s s'
 |[],R,s,s',h,hs=>by
  simp only [ji] at hs;cases hs;exact ⟨R,h,Step.refl _ _ _ _,rfl,aZ.refl _⟩
 |(l,sz,e) :: r,R,s,s',h,hs=>by
  unfold ji at hs;split at hs
  ·rename_i s1 h1;obtain ⟨R0,g1,g2,g3,g4⟩:=zA h h1;obtain ⟨R',k1,k2,k3,k4⟩:=mg g1 hs;exact ⟨R',k1,g2.trans k2,k3.trans g3,g4.trans k4⟩
  ·cases hs
def Yi (s:St) (d:Tmp):List (Option Nat × Nat × TypeId)→Option (List (Loc × Nat × TypeId))
 |[]=>some []
 |(none,sz,e) :: l=>match Yi s d l with
  |some r=>some ((.slot d,65536+sz,e) :: r)
  |none=>none
 |(some c,sz,e) :: l=>match Yi s d l,lk s.ab d with
  |some r,.lp k off=>some ((.box k (off+c),65536+sz,e) :: r)
  |some r,.v (.ptr id off)=>some ((.row id (off+c),65536+sz,e) :: r)
  |_,_=>none
def ku:List (Loc × Nat × TypeId)→St→St
 |[],s=>s
 |(l,sz,e) :: r,s=>match qC s l sz e with
  |some s'=>ku r s'
  |none=>ku r s
theorem qD:∀ {l:List (Loc × Nat × TypeId)} {R:ak} {s:St},bq E R w β s a→∃ R',bq E R' w β (ku l s) a∧Step R w β s.boxes R' w β (ku l s).boxes∧(ku l s).ro=s.ro∧aZ s (ku l s)
 |[],R,s,h=>⟨R,h,Step.refl _ _ _ _,rfl,aZ.refl _⟩
 |(l,sz,e) :: r,R,s,h=>by
  unfold ku;split
  ·rename_i s1 h1;obtain ⟨R0,g1,g2,g3,g4⟩:=zA h h1;obtain ⟨R',k1,k2,k3,k4⟩:=qD (l:=r) g1;exact ⟨R',k1,g2.trans k2,k3.trans g3,g4.trans k4⟩
  ·exact qD (l:=r) h
def CB (E:Env) (f:FuncId) (o:Oper) (s:St):Option St:=match o.dst with
 |none=>some s
 |some d=>match E.Dt f (d+327680) with
  |true=>match rG false (E.Dt f (d+458752)) s d with
   |some (true,s')=>some s'
   |_=>none
  |false=>match E.gho f d with
   |[]=>some s
   |x :: l=>match Yi s d (x :: l) with
    |some r=>some (ku r s)
    |none=>none
theorem qE {cut wk:Bool} {s s':St} {t:Tmp} {c:Bool} (h:rG cut wk s t=some (c,s')):aZ s s':=by
 unfold rG at h
 repeat' (split at h)
 all_goals (first|(cases h; done) | skip)
 all_goals (injection h with h; injection h with _ h; subst h; exact ⟨⟨[_],rfl⟩,⟨[],rfl⟩,rfl⟩)
theorem Lg {f:FuncId} {o:Oper} (h:bq E R w β s a) (hs:CB E f o s=some s'):∃ R',bq E R' w β s' a∧Step R w β s.boxes R' w β s'.boxes∧s'.ro=s.ro∧aZ s s':=by
 unfold CB at hs;split at hs
 ·cases hs;exact ⟨R,h,Step.refl _ _ _ _,rfl,aZ.refl _⟩
 ·split at hs
  ·split at hs
   ·rename_i s2 hz;cases hs;obtain ⟨R',r1,r2,r3⟩:=wU h hz;exact ⟨R',r1,r2,r3,qE hz⟩
   ·cases hs
  ·split at hs
   ·cases hs;exact ⟨R,h,Step.refl _ _ _ _,rfl,aZ.refl _⟩
   ·split at hs
    ·cases hs;exact qD h
    ·cases hs
end
end Go.Am
namespace Go.Am
open Go
def bZ (R:ak) (ro:Option Nat) (F:Fence):Prop:=match ro with
 |none=>F=abi
 |some id=>∃ b,nth R.obj id=some (.ck b)∧F=abi.inRound b
theorem bZ.mono {R R':ak} {w w':World} (e:Ext R w R' w') {ro:Option Nat} {F:Fence} (h:bZ R ro F):bZ R' ro F:=by
 cases ro with
 |none=>exact h
 |some id=>obtain ⟨b,h1,h2⟩:=h; exact ⟨b,e.ck h1,h2⟩
theorem bZ.fn {R:ak} {ro:Option Nat} {F:Fence} (h:bZ R ro F) (f:FuncId):F.fn f:=by
 cases ro with
 |none=>rw [show F=abi from h]; trivial
 |some id=>obtain ⟨b,_,h2⟩:=h; rw [h2]; trivial
theorem bZ.depth {R:ak} {ro:Option Nat} {F:Fence} (h:bZ R ro F):F.depth=none:=by
 cases ro with
 |none=>rw [show F=abi from h]; rfl
 |some id=>obtain ⟨b,_,h2⟩:=h; rw [h2]; rfl
theorem bZ.calls {R:ak} {ro:Option Nat} {F:Fence} (h:bZ R ro F) {n:Nat} {P:Program} {f:FuncId} {args:Array Value} {w:World} {Q:Ending→World→Prop} (hc:CallsIn abi n P f args w Q):CallsIn F n P f args w Q:=by
 cases ro with
 |none=>rw [show F=abi from h]; exact hc
 |some id=>obtain ⟨b,_,h2⟩:=h; rw [h2]; exact hc
def Res (E:Env) (R:ak) (w:World) (β:Nat→Nat) (s:St) (Q:Exit→St→Prop):Exit→Act→World→Prop:=
 fun e a' w'=>∃ s' R' β',Q e s'∧bq E R' w' β' s' a'∧Step R w β s.boxes R' w' β' s'.boxes∧s'.ro=s.ro
def hU (E:Env) (c:Code) (Q:Exit→St→Prop) (s:St):Prop:=
 ∀ (R:ak) (w:World) (β:Nat→Nat) (a:Act) (F:Fence),bq E R w β s a→bZ R s.ro F→c.wpIn F 0 E.P (Res E R w β s Q) a w
theorem hU.mono {E:Env} {c:Code} {Q Q':Exit→St→Prop} {s:St} (h:hU E c Q s) (hq:∀ e s,Q e s→Q' e s):hU E c Q' s:=
 fun R w β a F hr hf=>wpIn_mono (h R w β a F hr hf) fun e _ _ ⟨s',R',β',h1,h2⟩=>⟨s',R',β',hq e s' h1,h2⟩
section rules
variable {E:Env} {Q:Exit→St→Prop} {s:St}
theorem hU.skip (h:Q .normal s):hU E .skip Q s:=fun _ _ _ _ _ hr _=>wpIn_skip ⟨s,_,_,h,hr,Step.refl _ _ _ _,rfl⟩
theorem hU.label {l:Nat} (h:Q .normal s):hU E (.label l) Q s:=fun _ _ _ _ _ hr _=>wpIn_label ⟨s,_,_,h,hr,Step.refl _ _ _ _,rfl⟩
theorem hU.exit {id:Nat} (h:Q (.exit id) s):hU E (.exit id) Q s:=fun _ _ _ _ _ hr _=>wpIn_exit ⟨s,_,_,h,hr,Step.refl _ _ _ _,rfl⟩
theorem hU.ret (h:Q .ret s):hU E .ret Q s:=fun _ _ _ _ _ hr _=>wpIn_ret ⟨s,_,_,h,hr,Step.refl _ _ _ _,rfl⟩
def wV (N:St→Prop) (Q:Exit→St→Prop):Exit→St→Prop
 |.normal,s=>N s
 |e,s=>Q e s
theorem hU.seq {x y:Code} (h:hU E x (wV (hU E y Q) Q) s):hU E (.seq x y) Q s:=fun R w β a F hr hf=>by
 refine wpIn_seq (wpIn_mono (h R w β a F hr hf) ?_);rintro e a' w' ⟨s',R',β',hq,nF,mP,ca⟩;cases e with
 |normal=>
  refine wpIn_mono (hq R' w' β' a' F nF (by rw [ca]; exact hf.mono mP.ext)) ?_;rintro e a'' WB ⟨Fa,RR,β'',Yj,DN,wW,CC⟩;exact ⟨Fa,RR,β'',Yj,DN,mP.trans wW,CC.trans ca⟩
 |_=>exact ⟨s',R',β',hq,nF,mP,ca⟩
theorem hU.cond {c:Operand} {x y:Code} {b:Bool} (hc:bQ E s.ab c=.v (.bool b)) (h1:b=true→hU E x Q s) (h2:b=false→hU E y Q s):hU E (.cond c x y) Q s:=fun R w β a F hr hf=>by
 have rc:=aY hr c;rw [hc] at rc;have hb:a.eval c=.bool b:=by
  have rc':Rel R w (.bool b) (a.eval c):=rc;generalize a.eval c=v at rc';cases rc';rfl
 exact wpIn_cond_split hb (fun e=>h1 e R w β a F hr hf) (fun e=>h2 e R w β a F hr hf)
def Yk (id:Nat) (Q:Exit→St→Prop):Exit→St→Prop
 |.exit kV,s=>(kV=id→Q .normal s)∧(kV≠id→Q (.exit kV) s)
 |e,s=>Q e s
theorem hU.block {id:Nat} {c:Code} (h:hU E c (Yk id Q) s):hU E (.block id c) Q s:=fun R w β a F hr hf=>by
 refine wpIn_block (wpIn_mono (h R w β a F hr hf) ?_);rintro e a' w' ⟨s',R',β',hq,rest⟩;cases e with
 |exit kV=>
  by_cases e:kV=id
  ·simp only [Exit.inBlock,e,if_true];exact ⟨s',R',β',hq.1 e,rest⟩
  ·simp only [Exit.inBlock,e,if_false];exact ⟨s',R',β',hq.2 e,rest⟩
 |_=>exact ⟨s',R',β',hq,rest⟩
theorem po {F:Fence} {n:Nat} {P:Program} {Q:Exit→Act→World→Prop} {c:Code} (I:Nat→Act→World→Prop)
  (round:∀ m a w,I m a w→c.wpIn F n P (Exit.then (fun a' w'=>∃ m',m' < m∧I m' a' w') Q) a w):∀ {m:Nat} {a:Act} {w:World},I m a w→(Code.loop c).wpIn F n P Q a w:=by
 intro m a w h₀ b k cs ca hb hr;have key:∀ j a w,I j a w →
   ∃ e a' w',Q e a' w'∧ArrivesIn (Machine.fenced P F) P (lone (b.atR a (.code c :: .inLoop c :: k)) cs w) b k cs e a' w':=by
  intro j
  induction j using Nat.strongRecOn with
  |_ j ih=>
   intro a w hI;obtain ⟨e,a₁,w₁,hq,s6⟩:=round j a w hI b (.inLoop c :: k) cs ca hb hr;cases e with
   |normal=>
    obtain ⟨m',bY,hI₁⟩:=hq;obtain ⟨e₂,a₂,w₂,hq₂,acT⟩:=ih m' bY a₁ w₁ hI₁;exact ⟨e₂,a₂,w₂,hq₂,.of_steps (StepsIn.trans s6 (.one (fenced_calm hb hr rfl) stepR_inLoop)) acT⟩
   |exit id=>exact ⟨_,a₁,w₁,hq,.pass (x:=.inLoop c) rfl (fun _ _=>.inl (by simp)) s6⟩
   |goto l=>exact ⟨_,a₁,w₁,hq,.pass (x:=.inLoop c) rfl (fun _ _=>.inl (by simp)) s6⟩
   |ret=>exact ⟨_,a₁,w₁,hq,.pass (x:=.inLoop c) rfl (fun _ _=>.inl (by simp)) s6⟩
   |panic ch=>exact ⟨_,a₁,w₁,hq,.pass (x:=.inLoop c) rfl (fun _ _=>.inl (by simp)) s6⟩
   |outgrown=>exact ⟨_,a₁,w₁,hq,.pass (x:=.inLoop c) rfl (fun _ _=>.inl (by simp)) s6⟩
 obtain ⟨e,a',w',hq,s6⟩:=key _ a w h₀;exact ⟨e,a',w',hq,.of_steps (.one (fenced_calm hb hr rfl) stepR_loop) s6⟩
theorem hU.loop {c:Code} (I:Nat→St→Prop) (round:∀ m s,I m s→hU E c (wV (fun s'=>∃ m',m' < m∧I m' s') Q) s) {m:Nat} (h:I m s):hU E (.loop c) Q s:=fun R w β a F hr hf=>by
 refine po (fun m a' w'=>∃ s' R' β',I m s'∧bq E R' w' β' s' a'∧Step R w β s.boxes R' w' β' s'.boxes∧s'.ro=s.ro) ?_ ⟨s,R,β,h,hr,Step.refl _ _ _ _,rfl⟩;rintro m a' w' ⟨s',R',β',hI,nF,mP,ca⟩;refine wpIn_mono (round m s' hI R' w' β' a' F nF (by rw [ca]; exact hf.mono mP.ext)) ?_;rintro e a'' WB ⟨Fa,RR,β'',hq,DN,wW,CC⟩;cases e with
 |normal=>
  obtain ⟨m',bY,hI'⟩:=hq;exact ⟨m',bY,Fa,RR,β'',hI',DN,mP.trans wW,CC.trans ca⟩
 |_=>exact ⟨Fa,RR,β'',hq,DN,mP.trans wW,CC.trans ca⟩
end rules
def noGoto (Q:Exit→Act→World→Prop):Exit→Act→World→Prop
 |.goto _,_,_=>False
 |e,a,w=>Q e a w
section scopes
variable {P:Program} {b:Frame} {a:Act} {k:List Item} {cs:List Frame} {w:World} {Q:Exit→Act→World→Prop} {F:Fence} {n:Nat}
theorem jt {c:Code}:step P (lone (b.atR a (.code (.scope c) :: k)) cs w)=.next (lone (b.atR a (.code c :: .inScope c :: k)) cs w):=
 step_lone_go (by simp [stepG,stepG.exec,Frame.atR])
theorem BJ {c:Code}:step P (lone (b.atR a (.inScope c :: k)) cs w)=.next (lone (b.atR a k) cs w):=
 step_lone_go (by simp [stepG,stepG.exec,Frame.atR])
theorem HZ {c:Code} (h:c.wpIn F n P (noGoto Q) a w):(Code.scope c).wpIn F n P Q a w:=by
 intro b k cs ca hb hr;have h0:(lone (b.atR a (.code (.scope c) :: k)) cs w).fenced P F:=fenced_calm hb hr rfl;obtain ⟨e,a₁,w₁,hq,s6⟩:=h b (.inScope c :: k) cs ca hb hr;cases e with
 |normal=>exact ⟨.normal,a₁,w₁,hq,.head h0 jt (StepsIn.trans s6 (.one (fenced_calm hb hr rfl) BJ))⟩
 |exit id=>
  have hx:exitTo id (.inScope c :: k)=exitTo id k:=by simp [exitTo]
  exact ⟨.exit id,a₁,w₁,hq,fun k' hk=>.head h0 jt (s6.1 k' (by rw [hx]; exact hk)),
    fun nF hk=>let ⟨k₁,h1,h2⟩:=s6.2 nF (by rw [hx]; exact hk); ⟨k₁,h1,.head h0 jt h2⟩⟩
 |goto l=>exact hq.elim
 |ret=>exact ⟨_,a₁,w₁,hq,.of_steps (.one h0 jt) s6⟩
 |panic ch=>exact ⟨_,a₁,w₁,hq,.of_steps (.one h0 jt) s6⟩
 |outgrown=>exact ⟨_,a₁,w₁,hq,.of_steps (.one h0 jt) s6⟩
end scopes
def Yl (Q:Exit→St→Prop):Exit→St→Prop
 |.goto _,_=>False
 |e,s=>Q e s
theorem hU.scope {E:Env} {c:Code} {Q:Exit→St→Prop} {s:St} (h:hU E c (Yl Q) s):hU E (.scope c) Q s:=fun R w β a F hr hf=>by
 refine HZ (wpIn_mono (h R w β a F hr hf) ?_);rintro e a' w' ⟨s',R',β',hq,rest⟩;cases e with
 |goto l=>exact hq.elim
 |_=>exact ⟨s',R',β',hq,rest⟩
def gy:dc:=[]
def JG (E:Env) (R:ak) (w:World) (Q:AV→List GO→Prop):Ending→World→Prop
 |.returned c,w'=>∃ r G' R',Q r G'∧Rel R' w' r c∧eI E R' w' G'∧Step R w (fun _=>0) gy R' w' (fun _=>0) gy
 |_,_=>False
def DO (E:Env) (R:ak) (w:World) (Q:Bool→List GO→Prop):Ending→World→Prop
 |.returned c,w'=>∃ r G' R',Q r G'∧c=.bool r∧eI E R' w' G'∧Step R w (fun _=>0) gy R' w' (fun _=>0) gy
 |_,_=>False
def mh (E:Env) (id:Nat) (args:List AV) (G:List GO) (Q:Bool→List GO→Prop):Prop:=
 ∀ (R:ak) (w:World) (cs:List Value) (b:Nat),eI E R w G→aP R w args cs→nth R.obj id=some (.ck b) →
  ∃ r:Loop,w.heap[b]?=some (.loop r)∧cs.length=r.params.size ∧
   RoundIn abi 0 E.P b r.fn ((r.params.zip ⟨cs⟩).foldl (fun tmps (t,a)=>tmps.setIfInBounds t a) r.tmps) r.assign r.body w (DO E R w Q)
theorem mh.mono {E:Env} {id:Nat} {args:List AV} {G:List GO} {Q Q':Bool→List GO→Prop} (h:mh E id args G Q) (hq:∀ r G',Q r G'→Q' r G'):mh E id args G Q':=
 fun R w cs b hg hl hb=>by
  obtain ⟨r,h1,h2,h3⟩:=h R w cs b hg hl hb;refine ⟨r,h1,h2,h3.mono fun e w' he=>?_⟩;cases e with
  |returned c=>obtain ⟨r,G',R',k1,k2⟩:=he; exact ⟨r,G',R',hq _ _ k1,k2⟩
  |_=>exact he
def Plain (P : Program) (g : FuncId) : Prop := ∃ fn, P.funcs[g]? = some fn ∧ fn.body.isNone = false ∧ (fn.name == "runtime.NumGoroutine") = false
def cO (E:Env) (g:FuncId) (args:List AV) (G:List GO) (Q:AV→List GO→Prop):Prop:=
 Plain E.P g∧∀ (R:ak) (w:World) (cs:List Value),eI E R w G→aP R w args cs→CallsIn abi 0 E.P g ⟨cs⟩ w (JG E R w Q)
theorem cO.mono {E:Env} {g:FuncId} {args:List AV} {G:List GO} {Q Q':AV→List GO→Prop} (h:cO E g args G Q) (hq:∀ r G',Q r G'→Q' r G'):cO E g args G Q':=
 ⟨h.1,fun R w cs hg hl=>(h.2 R w cs hg hl).mono fun e _ he=>by
  cases e with
  |returned c=>obtain ⟨r,G',R',h1,h2⟩:=he; exact ⟨r,G',R',hq _ _ h1,h2⟩
  |_=>exact he⟩
theorem fZ {R:ak} {β:Nat→Nat} {b:Nat} (h:Own R β gy b):Live R b:=by
 rcases h with h|⟨k,cs,hk,_⟩
 ·exact h
 ·simp [gy,eF] at hk
section calls
variable {E:Env} {R R':ak} {w w':World} {β:Nat→Nat} {s:St} {a:Act} {o:Oper}
theorem bq.vB (h:bq E R w β s a) {G':List GO} (hg:eI E R' w' G') (st:Step R w (fun _=>0) gy R' w' (fun _=>0) gy) :
  bq E R' w' β (s.cP G') a∧Step R w β s.boxes R' w' β s.boxes:=by
 have HI:∀ k cs,eF s.boxes k=some cs→β k < w.heap.size∧¬ Live R (β k):=fun k cs hk=>⟨h.fE (.inr ⟨k,cs,hk,rfl⟩),(h.b.box k cs hk).2.2⟩
 have live:∀ b,b < w.heap.size→Live R' b→Live R b:=fun b hb hl=>fZ (st.own b hb (.inl hl))
 refine ⟨⟨hg,h.b.bJ st.ext (fun k cs hk=>?_) (fun k cs o hk hi=>?_) (fun k cs hk hl=>live _ (HI k cs hk).1 hl),h.t.mono st.ext,h.n,h.d.mono st.ext⟩,?_⟩
 ·obtain ⟨h1,h2⟩:=HI k cs hk;exact st.bJ _ h1 (fun ho=>h2 (fZ ho))
 ·obtain ⟨h1,h2⟩:=HI k cs hk;exact st.im _ o hi h1 (fun ho=>h2 (fZ ho))
 ·refine ⟨st.ext,st.os,st.tape,st.output,st.size,fun b hb hn=>st.bJ b hb (fun ho=>hn (.inl (fZ ho))),fun b hb ho=>?_,fun b o hi hb hn=>st.im b o hi hb (fun ho=>hn (.inl (fZ ho)))⟩;rcases ho with ho|ho
  ·exact .inl (live b hb ho)
  ·exact .inr ho
theorem pq {P:Program} {g:FuncId} (h:Plain P g) (args:Array Value) (w:World):(callFunc g args).run P w=.ok (.enter g args) w:=by
 obtain ⟨fn,h1,h2,h3⟩:=h;unfold callFunc;simp only [abj,run_program,aaY,h1,h2,h3,Bool.false_eq_true,if_false,abq]
def qF (E:Env) (R:ak) (w:World) (β:Nat→Nat) (s:St) (K:St→Prop) (a':Act) (w':World):Prop:=
 ∃ s' R' β',K s'∧bq E R' w' β' s' a'∧Step R w β s.boxes R' w' β' s'.boxes∧s'.ro=s.ro
@[simp] theorem jO (s:St) (d:Option Tmp) (x:SV):(s.put d x).ro=s.ro:=by
 cases d with
 |none=>rfl
 |some d=>
  simp only [St.put];split <;> rfl
theorem Nh {f:FuncId} {c:Bool} {s':St} (h:jq E f s o=some (c,s')):s'.ro=s.ro:=by
 unfold jq at h;cases h
theorem Lh {f:FuncId} {c:Bool} {s':St} (h:an E f s o=some (c,s')):s'.ro=s.ro:=by
 have alloc:∀ {el:TypeId} {cs:List AV} {c:Bool} {s':St},gq E f s o.dst el cs=some (c,s')→s'.ro=s.ro:=by
  intro el cs c s' h;unfold gq at h
  repeat' (split at h)
  all_goals (first|(cases h; done) | skip)
  all_goals (injection h with h; injection h with _ h; subst h; simp [St.fj,St.xI,St.kill])
 have store:∀ {t:TypeId} {p x:SV} {s':St},kY E s t p x=some s'→s'.ro=s.ro:=by
  intro t p x s' h;unfold kY at h
  repeat' (split at h)
  all_goals (first|(cases h; done) | skip)
  all_goals (injection h with h; subst h; rfl)
 have H3:∀ {t:TypeId} {p x:SV} {c:Bool} {s':St},kZ E s t p x=some (c,s')→s'.ro=s.ro:=by
  intro t p x c s' h;unfold kZ at h
  repeat' (split at h)
  all_goals (first|(cases h; done) | skip)
  all_goals (injection h with h; injection h with _ h; subst h)
  all_goals (first|rfl | exact store (by assumption))
 have blt:∀ {b:Builtin} {l:List AV} {tys:List TypeId} {c:Bool} {s':St},bU E s o.dst b l tys=some (c,s')→s'.ro=s.ro:=by
  intro b l tys c s' h;unfold bU at h
  repeat' (split at h)
  all_goals (first|(cases h; done) | skip)
  all_goals (injection h with h; injection h with _ h; subst h; simp [St.cP])
 have update:∀ {t:TypeId} {m k x:SV} {s':St},gr E s t m k x=some s'→s'.ro=s.ro:=by
  intro t m k x s' h;unfold gr at h
  repeat' (split at h)
  all_goals (first|(cases h; done) | skip)
  all_goals (injection h with h; subst h; rfl)
 have next:∀ {x:SV} {s':St},nf s o.dst x=some s'→s'.ro=s.ro:=by
  intro x s' h;unfold nf at h;split at h
  ·split at h
   ·rename_i l pos hg;cases hb:Nat.blt pos l.length <;> rw [hb] at h <;> simp only [cond_true,cond_false] at h <;> cases h <;> simp [St.cP]
   ·cases h
  ·cases h
 have H4:∀ {t:TypeId} {m k:SV} {c:Bool} {v:AV} {s':St},iq E s t m k=some (c,v,s')→s'.ro=s.ro:=by
  intro t m k c v s' h;unfold iq at h
  repeat' (split at h)
  all_goals (first|(cases h; done) | skip)
  all_goals (injection h with h; injection h with _ h; injection h with _ h; subst h; rfl)
 have H5:∀ {m st x:SV} {c:Bool} {s':St},fK s m st x=some (c,s')→s'.ro=s.ro:=by
  intro m st x c s' h;unfold fK at h
  repeat' (split at h)
  all_goals (first|(cases h; done) | skip)
  all_goals (injection h with h; injection h with _ h; subst h; rfl)
 unfold an at h
 repeat' (split at h)
 all_goals (first|(cases h; done) | exact alloc h | exact blt h | (rename_i hf; cases h; exact Nh hf) | skip)
 all_goals (injection h with h; injection h with _ h; subst h)
 all_goals (first|(simp; done) | (simp [St.fj]; done) | skip)
 all_goals (first|exact H3 (by assumption) | exact update (by assumption) | exact (jO _ _ _).trans (H4 (by assumption)) | exact H5 (by assumption) | exact next (by assumption))
theorem Ft {f:FuncId} {F:Fence} {s':St} {K:St→Prop} {Qc:Exit→Act→World→Prop} (h:bq E R w β s a) (hf:bZ R s.ro F) (hs:an E f s o=some (true,s')) (hK:K s')
  (nd:∀ c,o.op≠.defer c) (N:Act→World→Prop) (hN:∀ a' w',qF E R w β s K a' w'→N a' w'):o.wpIn F 0 E.P a w N Qc:=by
 obtain ⟨nx,x,w',R',β',h1,h2,h3,h4⟩:=Fp h hs;refine ⟨fun f _=>hf.fn f,?_⟩;rw [abp _ _ _ nd,h1];have:N (a.put o.dst x) w':=hN _ _ ⟨s',R',β',hK,h3,h4,Lh hs⟩;rcases h2 with rfl|⟨rfl,rfl⟩
 ·exact this
 ·exact this
theorem Li {F:Fence} {K:St→Prop} {Qc:Exit→Act→World→Prop} (h:bq E R w β s a) (hf:bZ R s.ro F) {fo:Operand} {args:Array Operand} {tys:Array TypeId} (ho:o.op=.call { callee:=.value fo,args:=args,argTypes:=tys })
  {g:FuncId} {first cap l:List AV} (hfo:bQ E s.ab fo=.v (.fn g first cap)) (hl:oR E s.ab args.toList=some l)
  (hc:cO E g (first++l++cap) s.G (fun r G'=>K ((s.cP G').put o.dst (.v r)))) (N:Act→World→Prop) (hN:∀ a' w',qF E R w β s K a' w'→N a' w'):o.wpIn F 0 E.P a w N Qc:=by
 refine ⟨fun f _=>hf.fn f,?_⟩;have rf:=aY h fo;rw [hfo] at rf;have rf':Rel R w (.fn g first cap) (a.eval fo):=rf;have rl:=iW h hl;generalize hfv:a.eval fo=fv at rf';cases rf' with
 | @fn _ _ _ vs us h1 h2=>
 have bK:(o.semAt F.round a.eval).run E.P w=.ok (.enter g ⟨vs++args.toList.map a.eval++us⟩) w:=by
  rw [abp _ _ _ (fun c e=>by rw [ho] at e; cases e)];simp only [execOp,ho,resolve,hfv,abW,abj,abq,aaY,invoke,me];have:=pq hc.1 (⟨vs⟩++⟨args.toList.map a.eval⟩++⟨us⟩) w;simpa using this
 rw [bK];refine ⟨fun e=>by rw [hf.depth] at e; simp at e,hf.calls ?_⟩;refine (hc.2 R w (vs++args.toList.map a.eval++us) h.g ((h1.append rl).append h2)).mono ?_;intro e WB he;cases e with
 |returned c=>
  obtain ⟨r,G',R',hK,hr,hg,st⟩:=he;obtain ⟨q1,q2⟩:=h.vB hg st;exact hN _ _ ⟨_,R',β,hK,q1.put o.dst (x:=.v r) hr,by rw [bf]; exact q2,by rw [jO]; rfl⟩
 |panicked c=>exact he.elim
 |outgrown=>exact he.elim
theorem bZ.rounds {R:ak} {ro:Option Nat} {F:Fence} (h:bZ R ro F) {n:Nat} {P:Program} {l:Nat} {f:FuncId} {tmps:Array Value} {uk bd:Code} {w:World} {Q:Ending→World→Prop}
  (hc:RoundIn abi n P l f tmps uk bd w Q):RoundIn F n P l f tmps uk bd w Q:=by
 cases ro with
 |none=>rw [show F=abi from h]; exact hc
 |some id=>obtain ⟨b,_,h2⟩:=h; rw [h2]; exact hc
theorem H6 {F:Fence} {K:St→Prop} {Qc:Exit→Act→World→Prop} (h:bq E R w β s a) (hf:bZ R s.ro F) {fo:Operand} {args:Array Operand} {tys:Array TypeId} (ho:o.op=.call { callee:=.value fo,args:=args,argTypes:=tys })
  {id:Nat} {l:List AV} (hfo:bQ E s.ab fo=.v (.yield id)) (hl:oR E s.ab args.toList=some l)
  (hc:mh E id l s.G (fun b G'=>K ((s.cP G').put o.dst (.v (.bool b))))) (N:Act→World→Prop) (hN:∀ a' w',qF E R w β s K a' w'→N a' w'):o.wpIn F 0 E.P a w N Qc:=by
 refine ⟨fun f _=>hf.fn f,?_⟩;have rf:=aY h fo;rw [hfo] at rf;have rf':Rel R w (.yield id) (a.eval fo):=rf;have rl:=iW h hl;generalize hfv:a.eval fo=fv at rf';cases rf' with
 | @yield _ b hb=>
 obtain ⟨r,Cw,Fo,hr3⟩:=hc R w (args.toList.map a.eval) b h.g rl hb;have bK:(o.semAt F.round a.eval).run E.P w=.ok (.round b r.fn ((r.params.zip ⟨args.toList.map a.eval⟩).foldl (fun tmps (t,a)=>tmps.setIfInBounds t a) r.tmps) r.assign r.body) w:=by
  rw [abp _ _ _ (fun c e=>by rw [ho] at e; cases e)];simp only [execOp,ho,resolve,hfv,abW,abj,abq,aaY,invoke,me];have:=run_yield (P:=E.P) Cw (args:=⟨args.toList.map a.eval⟩) Fo;simpa using this
 rw [bK];refine ⟨fun e=>by rw [hf.depth] at e; simp at e,hf.rounds (hr3.mono ?_)⟩;intro e WB he;cases e with
 |returned c=>
  obtain ⟨r,G',R',hK,rfl,hg,st⟩:=he;obtain ⟨q1,q2⟩:=h.vB hg st;exact hN _ _ ⟨_,R',β,hK,q1.put o.dst (x:=.v (.bool r)) (Rel.bool r),by rw [bf]; exact q2,by rw [jO]; rfl⟩
 |panicked c=>exact he.elim
 |outgrown=>exact he.elim
end calls
def qG (ops:List Oper) (j:Nat):Option Tmp:=match nth ops j with
 |some o=>o.dst
 |none=>none
def eJ:Bool→Prop→Prop
 |true,p=>p
 |false,_=>False
theorem eJ.mk {c:Bool} {p:Prop} (h:c=true) (hp:p):eJ c p:=by subst h; exact hp
theorem eJ.out {c:Bool} {p:Prop} (h:eJ c p):c=true∧p:=by
 cases c
 ·exact h.elim
 ·exact ⟨rfl,h⟩
def lF (E:Env) (f:FuncId) (o:Oper) (K:St→Prop) (s:St):Prop:=
 match o.op with
 |.call { callee:=.value x,args,.. }=>match bQ E s.ab x,oR E s.ab args.toList with
  |.v (.fn g first cap),some l=>cO E g (first++l++cap) s.G (fun r G'=>K ((s.cP G').put o.dst (.v r)))
  |.v (.yield id),some l=>mh E id l s.G (fun b G'=>K ((s.cP G').put o.dst (.v (.bool b))))
  |_,_=>False
 |.defer _=>False
 |_=>match an E f s o with
  |some (c,s')=>eJ c (K s')
  |none=>False
def cA (E:Env) (f:FuncId) (ops:List Oper) (o:Oper) (K:St→Prop) (s:St):Prop:=
 match o.guard with
 |none=>lF E f o K s
 |some (j,want)=>match qG ops j with
  |none=>False
  |some d=>match lk s.ab d with
   |.v (.bool b)=>(b=want→lF E f o K (s.put (some d) (.v (.bool want))))∧(b=!want→K ((s.put (some d) (.v (.bool (!want)))).put o.dst (.v gW)))
   |.v (.bu [])=>K (s.put o.dst (.v gW))
   |_=>False
def hY (E:Env) (f:FuncId) (ops:List Oper) (o:Oper) (K:St→Prop) (s:St):Prop:=
 match o.guard,ky E f s o with
 |none,some s'=>K s'
 |_,_=>cA E f ops o K s
def gz (E:Env) (f:FuncId) (ops:List Oper) (o:Oper) (K:St→Prop) (s:St):Prop:=
 match o.guard,wJ E f s o,vn E s o with
 |none,some (c,s'),_=>eJ c (K s')
 |none,none,some (c,s0,left,g)=>eJ c ((left=[]→K s0)∧∀ i∈left,eJ (g i).1 (K (g i).2))
 |_,_,_=>hY E f ops o K s
def gA (E:Env) (f:FuncId) (ops:List Oper) (o:Oper) (K:St→Prop) (s:St):Prop:=
 match KU E f s o with
 |some (c,s')=>c=true∧gz E f ops o K s'
 |none=>gz E f ops o K s
def CD (E:Env) (f:FuncId) (o:Oper) (K:St→Prop) (s:St):Prop:=match CB E f o s with
 |some s'=>K s'
 |none=>False
def qH (E:Env) (f:FuncId) (ops:List Oper):List Oper→(St→Prop)→St→Prop
 |[],K,s=>K s
 |o :: rest,K,s=>gA E f ops o (CD E f o (qH E f ops rest K)) s
section regions
variable {E:Env} {R:ak} {w:World} {β:Nat→Nat} {s:St} {a:Act}
theorem CE {f:FuncId} {o:Oper} {F:Fence} {K:St→Prop} {Qc:Exit→Act→World→Prop} (h:bq E R w β s a) (hf:bZ R s.ro F) (ha:lF E f o K s) (N:Act→World→Prop) (hN:∀ a' w',qF E R w β s K a' w'→N a' w') :
  o.wpIn F 0 E.P a w N Qc:=by
 unfold lF at ha;split at ha
 ·rename_i x args tys ho;split at ha
  ·rename_i g first cap l h1 h2
   exact Li h hf ho h1 h2 ha N hN
  ·rename_i id l h1 h2;exact H6 h hf ho h1 h2 ha N hN
  ·exact ha.elim
 ·exact ha.elim
 ·rename_i nc nd;split at ha
  ·rename_i c s' hs;obtain ⟨rfl,hK⟩:=ha.out;exact Ft h hf hs hK (fun c e=>nd c e) N hN
  ·exact ha.elim
theorem bq.Fu (h:bq E R w β s a) {d:Tmp} {b t:Bool} (hd:lk s.ab d=.v (.bool b)) (e:b=t):bq E R w β (s.put (some d) (.v (.bool t))) a:=by
 subst e;simp only [St.put];split
 ·refine ⟨h.g,h.b,fun i hi=>?_,h.n,h.d⟩;by_cases e:d=i
  ·subst e;rw [aC];have:=h.t d (by rw [hd]; simp);rw [hd] at this;exact this
  ·rw [aW e] at hi ⊢;exact h.t i hi
 ·exact h
theorem H7 (h:bq E R w β s a) {ops:Array Oper} {j:Nat} {d:Tmp} {b:Bool} (hj:qG ops.toList j=some d) (hd:lk s.ab d=.v (.bool b)):yielded ops a.tmps j=some b:=by
 unfold qG at hj;split at hj
 ·rename_i o ho;rw [bj] at ho;have pf:ops[j]?=some o:=by simpa using ho
  obtain ⟨c,h1,h2⟩:=h.t d (by rw [hd]; simp);rw [hd] at h2;have h2':Rel R w (.bool b) c:=h2;cases h2';simp [yielded,pf,hj,h1]
 ·cases hj
theorem BK (h:bq E R w β s a) {ops:Array Oper} {j:Nat} {d:Tmp} (hj:qG ops.toList j=some d) (hd:lk s.ab d=.v (.bu [])):yielded ops a.tmps j=none:=by
 unfold qG at hj;split at hj
 ·rename_i o ho;rw [bj] at ho;have pf:ops[j]?=some o:=by simpa using ho
  obtain ⟨c,h1,h2⟩:=h.t d (by rw [hd]; simp);rw [hd] at h2;have h2':Rel R w (.bu []) c:=h2;cases h2';simp [yielded,pf,hj,h1]
 ·cases hj
theorem ul {f:FuncId} {o:Oper} {F:Fence} {ops:Array Oper} {K:St→Prop} {Qc:Exit→Act→World→Prop} (h:bq E R w β s a) (hf:bZ R s.ro F) (ha:cA E f ops.toList o K s) (N:Act→World→Prop) (hN:∀ a' w',qF E R w β s K a' w'→N a' w') :
  (if aaB o (yielded ops a.tmps) then o.wpIn F 0 E.P a w N Qc else (∀ f,o.about E.P w a.eval=some f→F.fn f)∧N (a.put o.dst undef) w):=by
 unfold cA at ha;split at ha
 ·rename_i hg;have:aaB o (yielded ops a.tmps)=true:=by simp [aaB,hg]
  rw [if_pos this];exact CE h hf ha N hN
 ·rename_i j want hg;split at ha
  ·exact ha.elim
  ·rename_i d hd;split at ha
   ·rename_i b hb;have hy:=H7 h hd hb;by_cases hw:b=want
    ·have:aaB o (yielded ops a.tmps)=true:=by simp [aaB,hg,hy,hw]
     rw [if_pos this];exact CE (h.Fu hb hw) (by rw [jO]; exact hf) (ha.1 hw) N (fun a' w' hh=>hN a' w' (by
      obtain ⟨s',R',β',q1,q2,q3,q4⟩:=hh;exact ⟨s',R',β',q1,q2,by rw [bf] at q3; exact q3,by rw [jO] at q4; exact q4⟩))
    ·have hbw:b=!want:=by cases b <;> cases want <;> simp_all
     have:¬ aaB o (yielded ops a.tmps)=true:=by simp [aaB,hg,hy,hw]
     rw [if_neg this];refine ⟨fun f _=>hf.fn f,hN _ _ ⟨_,R,β,ha.2 hbw,(h.Fu hb hbw).put o.dst (x:=.v gW) (Rel.bu .nil),by rw [bf,bf]; exact Step.refl _ _ _ _,by rw [jO,jO]⟩⟩
   ·rename_i hb;have hy:=BK h hd hb;have:¬ aaB o (yielded ops a.tmps)=true:=by simp [aaB,hg,hy]
    rw [if_neg this];exact ⟨fun f _=>hf.fn f,hN _ _ ⟨_,R,β,ha,h.put o.dst (x:=.v gW) (Rel.bu .nil),by rw [bf]; exact Step.refl _ _ _ _,by rw [jO]⟩⟩
   ·exact ha.elim
theorem BL {f:FuncId} {o:Oper} {F:Fence} {ops:Array Oper} {K:St→Prop} {Qc:Exit→Act→World→Prop} (h:bq E R w β s a) (hf:bZ R s.ro F) (ha:hY E f ops.toList o K s) (N:Act→World→Prop) (hN:∀ a' w',qF E R w β s K a' w'→N a' w') :
  (if aaB o (yielded ops a.tmps) then o.wpIn F 0 E.P a w N Qc else (∀ f,o.about E.P w a.eval=some f→F.fn f)∧N (a.put o.dst undef) w):=by
 unfold hY at ha;split at ha
 ·rename_i s' hg hb;have:aaB o (yielded ops a.tmps)=true:=by simp [aaB,hg]
  rw [if_pos this];unfold ky at hb;split at hb
  ·rename_i t len parts ho;split at hb
   ·rename_i d hd;split at hb
    ·split at hb
     ·rename_i i hi;split at hb
      ·rename_i elem bT ag qp z esz es hk hv;cases hb;obtain ⟨nx,x,w',R',β',h1,h2,h3,h4⟩:=vw h t len parts ho hv hi hk;refine ⟨fun f _=>hf.fn f,?_⟩;rw [abp _ _ _ (fun c e=>by rw [ho] at e; cases e),h1];rw [hd] at h3 h4;have gS:N (a.put o.dst x) w':=hN _ _ ⟨_,R',β',ha,by rw [hd]; exact h3,h4,by rw [jO]; rfl⟩;rcases h2 with rfl|⟨rfl,rfl⟩
       ·exact gS
       ·exact gS
      ·rename_i elem esz ag qp z hk _;split at hb;rotate_left
       ·cases hb
       rename_i cs hv;cases hb;obtain ⟨nx,x,w',R',β',h1,h2,h3,h4⟩:=vv h t len parts ho hv hi hk;refine ⟨fun f _=>hf.fn f,?_⟩;rw [abp _ _ _ (fun c e=>by rw [ho] at e; cases e),h1];rw [hd] at h3 h4;have gS:N (a.put o.dst x) w':=hN _ _ ⟨_,R',β',ha,by rw [hd]; exact h3,h4,by rw [jO]; rfl⟩;rcases h2 with rfl|⟨rfl,rfl⟩
       ·exact gS
       ·exact gS
      ·cases hb
     ·cases hb
    ·split at hb
     ·split at hb
      ·rename_i i hi;split at hb
       ·rename_i elem bT ag qp z esz es hk hv;split at hb
        ·rename_i hle;cases hb;obtain ⟨nx,x,w',R',β',h1,h2,h3,h4⟩:=vz h t len parts ho hv hi hk (aau hle);refine ⟨fun f _=>hf.fn f,?_⟩;rw [abp _ _ _ (fun c e=>by rw [ho] at e; cases e),h1];rw [hd] at h3 h4;have gS:N (a.put o.dst x) w':=hN _ _ ⟨_,R',β',ha,by rw [hd]; exact h3,h4,by rw [jO]; rfl⟩;rcases h2 with rfl|⟨rfl,rfl⟩
         ·exact gS
         ·exact gS
        ·cases hb
       ·cases hb
      ·cases hb
     ·split at hb
      ·split at hb
       ·rename_i i hi;split at hb
        ·rename_i elem bT ag qp z esz es hk hv;split at hb
         ·rename_i hle;cases hb;obtain ⟨nx,x,w',R',β',h1,h2,h3,h4⟩:=vx h t len parts ho hv hi hk (aau hle);refine ⟨fun f _=>hf.fn f,?_⟩;rw [abp _ _ _ (fun c e=>by rw [ho] at e; cases e),h1];rw [hd] at h3 h4;have gS:N (a.put o.dst x) w':=hN _ _ ⟨_,R',β',ha,by rw [hd]; exact h3,h4,by rw [jO]; rfl⟩;rcases h2 with rfl|⟨rfl,rfl⟩
          ·exact gS
          ·exact gS
         ·cases hb
        ·cases hb
       ·cases hb
      ·cases hb
   ·cases hb
  ·cases hb
 ·exact ul h hf ha N hN
theorem Ni {f:FuncId} {o:Oper} {c:Bool} {s':St} (h:wJ E f s o=some (c,s')):s'.ro=s.ro∧∀ d,o.op≠.defer d:=by
 unfold wJ at h;cases h
theorem Lj {o:Oper} {c:Bool} {s0:St} {left:List Nat} {g:Nat→Bool × St} (h:vn E s o=some (c,s0,left,g)):(∃ x,o.op=.next x false∧Ce E s o.dst (bQ E s.ab x)=some (c,s0,left,g))∧s0.ro=s.ro∧∀ i,(g i).2.ro=s.ro:=by
 unfold vn at h;split at h
 ·rename_i x ho;refine ⟨⟨x,ho,h⟩,?_⟩;unfold Ce at h;split at h
  ·split at h
   ·split at h
    ·cases h;exact ⟨jO _ _ _,fun i=>jO _ _ _⟩
    ·cases h
   ·cases h
  ·cases h
 ·cases h
theorem vC {f:FuncId} {F:Fence} {o:Oper} {s':St} {K:St→Prop} {Qc:Exit→Act→World→Prop} (hf:bZ R s.ro F) (hd:cz E R w β s a o s') (hK:K s') (ca:s'.ro=s.ro)
  (nd:∀ c,o.op≠.defer c) (N:Act→World→Prop) (hN:∀ a' w',qF E R w β s K a' w'→N a' w'):o.wpIn F 0 E.P a w N Qc:=by
 obtain ⟨nx,x,w',R',β',h1,h2,h3,h4⟩:=hd;refine ⟨fun f _=>hf.fn f,?_⟩;rw [abp _ _ _ nd,h1];have:N (a.put o.dst x) w':=hN _ _ ⟨s',R',β',hK,h3,h4,ca⟩;rcases h2 with rfl|⟨rfl,rfl⟩
 ·exact this
 ·exact this
theorem sE {f:FuncId} {o:Oper} {F:Fence} {ops:Array Oper} {K:St→Prop} {Qc:Exit→Act→World→Prop} (h:bq E R w β s a) (hf:bZ R s.ro F) (ha:gz E f ops.toList o K s) (N:Act→World→Prop) (hN:∀ a' w',qF E R w β s K a' w'→N a' w') :
  (if aaB o (yielded ops a.tmps) then o.wpIn F 0 E.P a w N Qc else (∀ f,o.about E.P w a.eval=some f→F.fn f)∧N (a.put o.dst undef) w):=by
 unfold gz at ha;split at ha
 ·rename_i c s' hg hb;have:aaB o (yielded ops a.tmps)=true:=by simp [aaB,hg]
  rw [if_pos this];obtain ⟨rfl,hK⟩:=ha.out;obtain ⟨k1,k2⟩:=Ni hb;exact vC (f:=f) hf (HT h hb) hK k1 k2 N hN
 ·rename_i c s0 left g hg _ hb;have:aaB o (yielded ops a.tmps)=true:=by simp [aaB,hg]
  rw [if_pos this];obtain ⟨rfl,hK1,hK2⟩:=ha.out;obtain ⟨⟨x,ho,hm⟩,k1,k2⟩:=Lj hb;have nd:∀ c,o.op≠.defer c:=fun c e=>by rw [ho] at e; cases e
  rcases HQ h x ho hm with ⟨hl,hd⟩|⟨i,hi,hd⟩
  ·exact vC (f:=f) hf hd (hK1 hl) k1 nd N hN
  ·obtain ⟨q1,q2⟩:=(hK2 i hi).out;exact vC (f:=f) hf (hd q1) q2 (k2 i) nd N hN
 ·exact BL h hf ha N hN
theorem BM {f:FuncId} {o:Oper} {F:Fence} {ops:Array Oper} {K:St→Prop} {Qc:Exit→Act→World→Prop} (h:bq E R w β s a) (hf:bZ R s.ro F) (ha:gA E f ops.toList o K s) (N:Act→World→Prop) (hN:∀ a' w',qF E R w β s K a' w'→N a' w') :
  (if aaB o (yielded ops a.tmps) then o.wpIn F 0 E.P a w N Qc else (∀ f,o.about E.P w a.eval=some f→F.fn f)∧N (a.put o.dst undef) w):=by
 unfold gA at ha;split at ha
 ·rename_i c s' hz;obtain ⟨rfl,ha⟩:=ha;obtain ⟨R1,k1,k2,k3⟩:=Nf h hz;refine sE k1 (by rw [k3]; exact hf.mono k2.ext) ha N ?_;rintro a' w' ⟨s2,R',β',q1,q2,q3,q4⟩;exact hN a' w' ⟨s2,R',β',q1,q2,k2.trans q3,q4.trans k3⟩
 ·exact sE h hf ha N hN
theorem zB {f:FuncId} {F:Fence} {ops:Array Oper} {K:St→Prop} {Qc:Exit→Act→World→Prop} (hQ:∀ a' w',qF E R w β s K a' w'→Qc .normal a' w') :
  ∀ (l:List Nat) (os:List Oper),l.map (fun i=>ops[i]?)=os.map some→∀ (R1:ak) (w1:World) (β1:Nat→Nat) (s1:St) (a1:Act),bq E R1 w1 β1 s1 a1→Step R w β s.boxes R1 w1 β1 s1.boxes→s1.ro=s.ro→bZ R1 s1.ro F →
   qH E f ops.toList os K s1→wpOpsIn F 0 E.P ops Qc l a1 w1
 |[],os,hm,R1,w1,β1,s1,a1,hr,mP,ca,_,ha=>by
  have:os=[]:=by simpa using hm.symm
  subst this;exact hQ _ _ ⟨s1,R1,β1,ha,hr,mP,ca⟩
 |i :: l,[],hm,_,_,_,_,_,_,_,_,_,_=>by simp at hm
 |i :: l,o :: os,hm,R1,w1,β1,s1,a1,hr,mP,ca,hf,ha=>by
  simp only [List.map_cons,List.cons.injEq] at hm;obtain ⟨hi,hm⟩:=hm;simp only [wpOpsIn,hi];refine BM hr hf (show gA E f ops.toList o (CD E f o (qH E f ops.toList os K)) s1 from ha) _ ?_;rintro a' w' ⟨s',R',β',q1,q2,q3,q4⟩;unfold CD at q1;split at q1
  ·rename_i s2 hp;obtain ⟨R2,p1,p2,p3,_⟩:=Lg q2 hp;exact zB hQ l os hm R2 w' β' s2 a' p1 ((mP.trans q3).trans p2) (p3.trans (q4.trans ca)) (by rw [p3,q4]; exact hf.mono (q3.ext.trans p2.ext)) q1
  ·exact q1.elim
theorem Lk (ops:Array Oper):(List.range ops.size).map (fun i=>ops[i]?)=ops.toList.map some:=by
 apply List.ext_getElem?;intro i;simp only [List.getElem?_map];by_cases hi:i < ops.size
 ·rw [List.getElem?_range hi];simp [hi]
 ·rw [abL (by simp; omega),abL (by simp; omega)];rfl
theorem hU.region {f:FuncId} {id:Nat} {ops:Array Oper} {Q:Exit→St→Prop} {s:St} (h:qH E f ops.toList ops.toList (Q .normal) s):hU E (.region id ops false) Q s:=fun R w β a F hr hf=>by
 refine wpIn_region (zB (R:=R) (w:=w) (β:=β) (s:=s) (K:=Q .normal) (f:=f) ?_ _ _ (Lk ops) R w β s a hr (Step.refl _ _ _ _) rfl hf h);rintro a' w' ⟨s',R',β',h1,h2⟩;exact ⟨s',R',β',h1,h2⟩
end regions
end Go.Am
namespace Go.Am
open Go
def vsl:Nat→List AV→bk
 |_,[]=>[]
 |n,a :: l=>.put n (.v a) :: vsl (n+1) l
def St.init (ntmps:Nat) (args:List AV) (G:List GO):St:=
 ⟨vsl 0 args,[],G,[],none,max ntmps args.length⟩
def qI:List Nat→List GO→Option (List GO)
 |[],G=>some G
 |id :: l,G=>match nth G id with
  |some (.defers true)=>qI l (aG G id (.defers false))
  |_=>none
def H8 (E:Env) (s:St):List ResultVar→Option (List AV)
 |[]=>some []
 |.tmp t :: l=>match lk s.ab t,H8 E s l with
  |.v a,some r=>some (a :: r)
  |_,_=>none
 |.cell p t :: l=>match tL E s t (lk s.ab p),H8 E s l with
  |some a,some r=>some (a :: r)
  |_,_=>none
def Nj (E:Env) (s:St) (fn:Func):Option AV:=match H8 E s fn.results.toList with
 |some [a]=>some a
 |some l=>some (.bu l)
 |none=>none
def WN (E:Env) (fn:Func) (Q:AV→List GO→Prop):Exit→St→Prop
 |.normal,s | .ret,s=>match qI s.marks s.G with
  |some G=>match Nj E (s.cP G) fn with
   |some r=>Q r G
   |none=>False
  |none=>False
 |_,_=>False
section fns
variable {E:Env} {R:ak} {w:World} {β:Nat→Nat} {s:St} {a:Act}
def zC (tmps:Array Value):ResultVar→Sem Value
 |.tmp t=>pure (tmps.getD t undef)
 |.cell p t=>do loadVar t (← asAddr (tmps.getD p undef))
theorem zD (fn:Func) (tmps:Array Value):results fn tmps=(do
  let vs ← fn.results.mapM (zC tmps)
  pure (if h:vs.size=1 then vs[0] else .tuple vs)):=by
 unfold results;congr 1
theorem um (h:bq E R w β s a):∀ {l:List ResultVar} {r:List AV},H8 E s l=some r →
  ∃ vs,(l.mapM (zC a.tmps)).run E.P w=.ok vs w∧aP R w r vs
 |[],r,hl=>by
  simp [H8] at hl;subst hl;exact ⟨[],by simp,.nil⟩
 |.tmp t :: l,r,hl=>by
  unfold H8 at hl;split at hl
  ·rename_i x r' h1 h2;cases hl;obtain ⟨vs,g1,g2⟩:=um h h2;obtain ⟨c,k1,k2⟩:=h.t t (by rw [h1]; simp);rw [h1] at k2;have hg:a.tmps.getD t undef=c:=by simp [abC,k1]
   refine ⟨c :: vs,?_,.cons k2 g2⟩;simp only [List.mapM_cons,abj,abq,aaY,zC,hg,g1]
  ·cases hl
 |.cell p t :: l,r,hl=>by
  unfold H8 at hl;split at hl
  ·rename_i v r' h1 h2
   ·cases hl;obtain ⟨vs,g1,g2⟩:=um h h2;obtain ⟨c,k1,k2⟩:=h.t p (fun e=>by rw [e] at h1; unfold tL at h1; split at h1 <;> simp_all [oQ]);have hg:a.tmps.getD p undef=c:=by simp [abC,k1]
    unfold tL at h1;split at h1
    ·rename_i i cs off hi hc;split at h1
     ·rename_i l' hs;obtain ⟨b,o',us,e,q1,q2,q3⟩:=wL h k2 hc;obtain ⟨m1,m2,m3,m4⟩:=rI hs q1 q2;obtain ⟨c',yl,fF⟩:=qm (E:=E) hi (b:=b) (off:=o'+off) m1 m2 m3 (fun j y hy=>by rw [Nat.add_assoc]; exact q3 _ _ (m4 j y hy)) h1;refine ⟨c' :: vs,?_,.cons fF g2⟩;have ha:(asAddr c).run E.P w=.ok ⟨b,o'+off,none⟩ w:=by rw [e]; rfl
      have H9:(zC a.tmps (.cell p t)).run E.P w=.ok c' w:=by
       simp only [zC,abj,hg,ha,aaY,yl]
      simp only [List.mapM_cons,abj,abq,aaY,H9,g1]
     ·cases h1
    ·cases h1
  ·cases hl
theorem Nk (h:bq E R w β s a) {fn:Func} {r:AV} (hr:Nj E s fn=some r):∃ c,(results fn a.tmps).run E.P w=.ok c w∧Rel R w r c:=by
 unfold Nj at hr;split at hr
 ·rename_i x hl;cases hr;obtain ⟨vs,g1,g2⟩:=um h hl;cases g2 with
  | @cons _ c _ _ g2 g3=>
  cases g3;refine ⟨c,?_,g2⟩;rw [zD,abD];simp only [abj,Sem.run_map];rw [g1];simp
 ·rename_i l cK hl;cases hr;obtain ⟨vs,g1,g2⟩:=um h hl;refine ⟨.tuple ⟨vs⟩,?_,.bu g2⟩;have hlen:vs.length≠1:=by
   rw [← g2.length];intro e
   match l,e with
   |[x],_=>exact cK x rfl
  rw [zD,abD];simp only [abj,Sem.run_map];rw [g1];simp [hlen]
 ·cases hr
theorem Ll (fn:Func) (Q:Ending→World→Prop):∀ {marks:List Nat} {G G':List GO} {R:ak} {w:World} {β:Nat→Nat} {s:St} {a:Act},bq E R w β (s.cP G) a→sj R marks a.defers→qI marks G=some G' →
  (∀ w' ,bq E R w' β (s.cP G') a→Step R w β s.boxes R w' β s.boxes→∃ v,(results fn a.tmps).run E.P w'=.ok v w'∧Q (.returned v) w')→LeavesInM abi 0 E.P fn a.tmps Q a.defers .returning w:=by
 intro marks;have key:∀ (marks:List Nat) (ds:List Deferred) (G G':List GO) (R:ak) (w:World) (β:Nat→Nat) (s:St) (a:Act),bq E R w β (s.cP G) a→sj R marks ds→qI marks G=some G' →
   (∀ w' ,bq E R w' β (s.cP G') a→Step R w β s.boxes R w' β s.boxes→∃ v,(results fn a.tmps).run E.P w'=.ok v w'∧Q (.returned v) w')→LeavesInM abi 0 E.P fn a.tmps Q ds .returning w:=by
  intro marks
  induction marks with
  |nil=>
   intro ds G G' R w β s a hr hd hl hq;cases ds with
   |cons _ _=>exact hd.elim
   |nil=>
    simp [qI] at hl;subst hl;obtain ⟨v,h1,h2⟩:=hq w hr (Step.refl _ _ _ _);exact ⟨v,h1,h2⟩
  |cons id marks ih=>
   intro ds G G' R w β s a hr hd hl hq;cases ds with
   |nil=>exact hd.elim
   |cons d ds=>
    obtain ⟨⟨b,hb,rfl⟩,hd⟩:=hd;unfold qI at hl;split at hl
    ·rename_i hg;have hob:w.heap[b]?=some (.deferred (some [])):=hr.g.obj id _ _ hg hb;have bY:=bo hob;have MT:(abQ b).run E.P w=.ok [] (World.put w b (.deferred none)):=by
      simp only [abQ,getObj,setObj,abj,Sem.run,hob,aaY,abq];rfl
     obtain ⟨q1,q2⟩:=hr.setObj (s:=s.cP G) (x':=.deferred none) (go':=.defers false) hb hob trivial trivial (fun _ e=>by cases e) (iR w b _ bY);refine ⟨by simp,.inl ⟨b,_,rfl,MT,?_⟩⟩;refine ih ds (aG G id (.defers false)) G' R _ β s a q1 hd hl (fun w' nF mP=>?_);exact hq w' nF (q2.trans mP)
    ·cases hl
 intro G G' R w β s a hr hd hl hq;exact key marks a.defers G G' R w β s a hr hd hl hq
end fns
end Go.Am
namespace Go.Am
open Go
section intro
variable {E:Env} {R R':ak} {w w':World} {β β':Nat→Nat}
theorem zF {bx MH:dc} (h:Step R w β bx R' w' β' MH) (hn:∀ k cs,eF bx k≠some cs):Step R w (fun _=>0) gy R' w' (fun _=>0) gy:=by
 have own:∀ b,Own R β bx b→Live R b:=fun b ho=>by
  rcases ho with ho|⟨k,cs,hk,_⟩
  ·exact ho
  ·exact absurd hk (hn k cs)
 exact ⟨h.ext,h.os,h.tape,h.output,h.size,fun b hb vy=>h.bJ b hb (fun ho=>vy (.inl (own b ho))),fun b hb ho=>.inl (own b (h.own b hb (.inl (fZ ho)))),fun b o hi hb vy=>h.im b o hi hb (fun ho=>vy (.inl (own b ho)))⟩
theorem Nl:∀ {l:List AV} {n i:Nat},(i < n∨n+l.length≤i→lk (vsl n l) i=.none)∧(∀ a,l[i - n]?=some a→n≤i→lk (vsl n l) i=.v a)
 |[],n,i=>⟨fun _=>rfl,fun a h=>by simp at h⟩
 |b :: l,n,i=>by
  obtain ⟨h1,h2⟩:=Nl (l:=l) (n:=n+1) (i:=i);refine ⟨fun h=>?_,fun a h hn=>?_⟩
  ·simp only [List.length_cons] at h;simp only [vsl];rw [aW (by omega)];exact h1 (by omega)
  ·simp only [vsl];by_cases e:n=i
   ·subst e;rw [aC];simp at h;rw [h]
   ·rw [aW e];refine h2 a ?_ (by omega);have:i - n=(i - (n+1))+1:=by omega
    rw [this] at h;simpa using h
theorem Nn {ntmps:Nat} {args:List AV} {cs:List Value} {G:List GO} (hg:eI E R w G) (hl:aP R w args cs) :
  bq E R w (fun _=>0) (St.init ntmps args G) { tmps:=⟨cs⟩++Array.replicate (ntmps - (⟨cs⟩:Array Value).size) undef,defers:=[] }:=by
 have hlen:=hl.length;refine ⟨hg,⟨fun k c hk=>?_,fun k k' c c' hk _ _=>?_⟩,fun i hi=>?_,?_,trivial⟩
 ·simp [St.init,eF] at hk
 ·simp [St.init,eF] at hk
 ·simp only [St.init] at hi ⊢;obtain ⟨h1,h2⟩:=Nl (l:=args) (n:=0) (i:=i);by_cases bY:i < args.length
  ·have hy:args[i]?=some args[i]:=List.getElem?_eq_getElem bY;obtain ⟨c,k1,k2⟩:=hl.get hy;rw [h2 _ (by rw [Nat.sub_zero]; exact hy) (Nat.zero_le _)];refine ⟨c,?_,k2⟩;rw [Array.getElem?_append_left (by simp; omega)];simpa using k1
  ·exact absurd (h1 (by omega)) hi
 ·simp [St.init];omega
theorem Ia {ntmps:Nat} {args:List AV} {G:List GO} (k:Nat) (cs:List AV):eF (St.init ntmps args G).boxes k≠some cs:=by
 simp [St.init,eF]
theorem cO.intro {g : FuncId} {fn : Func} {c : Code} {args : List AV} {G : List GO} {Q : AV → List GO → Prop} (hf : E.P.funcs[g]? = some fn) (hb : fn.body = some c) (hn : (fn.name == "runtime.NumGoroutine") = false)
  (h:hU E c (WN E fn Q) (St.init fn.ntmps args G)):cO E g args G Q:=by
 refine ⟨⟨fn,hf,by simp [hb],hn⟩,fun R w cs hg hl=>?_⟩;refine callsIn_of_wp_marks hf hb trivial (wpIn_mono (h R w (fun _=>0) _ abi (Nn hg hl) rfl) ?_);rintro e a' w' ⟨s',R',β',hq,hr,mP,ca⟩;have fin:(match qI s'.marks s'.G with
  |some G=>match Nj E (s'.cP G) fn with
   |some r=>Q r G
   |none=>False
  |none=>False)→LeavesInM abi 0 E.P fn a'.tmps (JG E R w Q) a'.defers .returning w':=by
  intro hq;split at hq
  ·rename_i G2 hG2;split at hq
   ·rename_i r Ib;refine Ll fn (JG E R w Q) (s:=s') (G:=s'.G) hr hr.d hG2 (fun WB DN wW=>?_);obtain ⟨v,h1,h2⟩:=Nk DN Ib;exact ⟨v,h1,r,G2,R',hq,h2,DN.g,zF (mP.trans wW) Ia⟩
   ·exact hq.elim
  ·exact hq.elim
 cases e with
 |normal=>exact fin hq
 |ret=>exact fin hq
 |exit _=>exact hq.elim
 |goto _=>exact hq.elim
 |panic _=>exact hq.elim
 |outgrown=>exact hq.elim
end intro
end Go.Am
