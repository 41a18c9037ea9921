/- The abstract machine: what it does is what the model does: copy; and one theorem for every operation. -/
import Derived.Test.YtegoimldbgdeiaaGreatAmKF
set_option linter.all false
open Array renaming getElem?_toList→aa7, length_toList→aba
open Bool renaming and_eq_true→aao, or_eq_true→aa3
open Go.Builtin renaming firstCells→aav, copy_→aaL, clear_→aaR, lenOf→aa8, zeroCells→abe
open Go.Result renaming andThen_ok→abd
open Go.Value renaming int→abb
open List renaming replicate→aas, length_map→aaN, getElem?_take→aaO, getElem?_eq_getElem→aaQ, length_take→aaT, take_append_drop→aaU, mem_of_mem_take→aaV, mem_of_getElem?→aaY, mem_map→aa1, take_length→aa2, take_zero→aa5, length_replicate→aa6, map_cons→aa9
open List.cons renaming inj→aaZ
open Nat renaming eq_of_beq_eq_true→aal, min→aap, le_of_ble_eq_true→aaq, le_refl→aax, beq→aaI, mul_le_mul_right→aaK, ble→aaM, min_eq_left→aaW, add_zero→aa0, min_le_left→aa4, le_of_eq→abc
open Option.some renaming inj→aaX
open Prod.mk renaming injEq→aaS
namespace Go.Am
open Go
section ops
variable {E:Env} {R:ai} {w:World} {β:Nat→Nat} {s:St} {a:Act} {o:Oper}
theorem aY.setRow (h:aY E R w β s a) {id b:Nat} {cs eZ:List AV} {vs us:List Value} {el:TypeId} (hk:nth s.G id=some (.row cs el)) (hb:nth R.obj id=some (.bE b)) (hw:w.heap[b]?=some (.cells ⟨vs⟩ el (0,0)))
  (hr:aL R w eZ us) (h1:∀ v∈us,v.oneCell'=true):aY E R (w.setRow b ⟨us⟩) β (s.bq (ak s.G id (.row eZ el))) a∧Step R w β s.boxes R (w.setRow b ⟨us⟩) β s.boxes:=by
 obtain ⟨vs',b1,b2,b3,b4⟩:=h.g.obj id _ _ hk hb;have hex:=jo (R:=R) (w:=w) b4 ⟨us⟩;refine ⟨⟨⟨by simp [St.bq,h.g.len],fun iU go ro hg ky=>?_,h.g.inj,fun b' o' qP=>by have:=h.g.wf b' o' qP; simp; omega,fun g eZ hg=>(h.g.dF g eZ hg).mono hex,by first | exact h.g.lo | exact Nat.le_succ_of_le h.g.lo⟩,?_,h.t.mono hex,h.n,h.d⟩,?_⟩
 ·rcases b8 hg with ⟨rfl,rfl,_⟩|⟨cq,Ck⟩
  ·rw [hb] at ky;cases ky;exact ⟨_,setRow_heap w _ _ _ _ (0,0) hw,hr.mono hex,h1,b4⟩
  ·refine (h.g.obj iU go ro Ck ky).mono hex (fun b' kX=>setRow_other w _ b' _ (fun e=>cq ?_)) (fun _ _ _ hi=>hi);subst e;exact h.g.inj id iU _ _ b' hb ky rfl kX
 ·exact h.b.keep hex (fun k eZ iZ=>setRow_other w _ _ _ (h.G5 hb iZ)) (fun _ _ _ _ hi=>hi) (fun _ _ _ hl=>hl)
 ·have qY:Own R β s.boxes b:=.inl ⟨id,_,hb,rfl⟩;exact ⟨hex,rfl,rfl,rfl,by simp,fun b' _ hn=>setRow_other w _ b' _ (fun e=>hn (e ▸ qY)),fun _ _ hb=>hb,fun b o hi _ _=>hi⟩
theorem uN {P:Program} {w:World} {t ty elem:TypeId} {tl:List TypeId} {ie:TypeInfo} {esz n sLen b off len cap:Nat} {src:Value} {vs us:List Value} {el:TypeId} (e2:P.underlying t=some (.slice elem)) (f1:P.info? elem=some ie) (f2:ie.size=esz)
  (hw:w.heap[b]?=some (.cells ⟨vs⟩ el (0,0))) (hs:(aa8 src).run P w=.ok sLen w) (hn:n=aap sLen len) (hf:(aav esz n src).run P w=.ok ⟨us⟩ w) (hl:off+us.length≤vs.length) (h1:∀ v∈us,v.oneCell'=true) :
  (aaL ⟨t :: tl⟩ ty #[.slice (some ⟨b,off,none⟩) len cap,src]).run P w=.ok (.int .i64 n) (w.setRow b ⟨vs.take off++us++vs.drop (off+us.length)⟩):=by
 have iP:=run_storeCells_at (P:=P) b off el us 0 ⟨vs⟩ w hw (by simpa using hl) h1;simp only [aa0] at iP;subst hn;simp [aaL,run_underlying e2,run_sizeOf w f1,f2,hs,hf,iP,goInt]
theorem KJ (h:aY E R w β s a) {args:Array Operand} {t:TypeId} {tl:List TypeId} (ho:o.op=.call { callee:=.builtin .copy,args:=args,argTypes:=⟨t :: tl⟩ }) {d x:AV}
  (hl:nL E s.ab args.toList=some [d,x]) {i:TI} (hi:E.ti t=some i) {elem esz eb:Nat} {ag:Bool} {z:Option AV} (hk:i.k=.sl elem esz ag eb z) {n:Nat} {G':List GO} (hc:uo s esz d x=some (n,G')) :
  bQ E R w β s a o ((s.bq G').put o.dst (.v (.int .i64 n))):=by
 have hr:=fP h hl;generalize hv:args.toList.map a.eval=vs at hr;have hx:=dL (E:=E) (w:=w) ho vs hv;cases hr with
 | @cons _ cd _ _ h0 h1=>
 cases h1 with
 | @cons _ cx _ _ h1 h2=>
 cases h2;obtain ⟨hU,ud,e1,e2,e3,e4,e5,e6⟩:=ck E hi;rw [hk] at e5;obtain ⟨ie,ue,rfl,f1,f2,f3,f4,f5,f6⟩:=dq e5;have fT:∀ {c:Value} {w':World},(aaL ⟨t :: tl⟩ o.type #[cd,cx]).run E.P w=.ok c w'→(execOp a.eval o).run E.P w=.ok (.value c) w':=fun hh=>by
  rw [hx];simp only [builtin,Sem.run_bind,hh,abd,Sem.run_pure]
 unfold uo at hc;split at hc
 ·rename_i id off sz len cap;cases h0 with
  | @jV _ _ _ _ _ b hb ED=>
  split at hc
  ·rename_i cs hg;split at hc
   ·rename_i eR;have eR:=aal eR;subst eR;obtain ⟨vs,b1,b2,b3,b4⟩:=h.g.obj id _ _ hg hb;split at hc
    ·rename_i k bh es;split at hc
     ·rename_i BR;have MN:es=[]∨bh=sz:=by
       simp only [aa3] at BR;rcases BR with hs|hs
       ·exact .inr (aal hs)
       ·exact .inl (by simpa using hs)
      dsimp only at hc;split at hc
      ·rename_i hle;have hle:=aaq hle;injection hc with hc; injection hc with p q;subst p; subst q;obtain ⟨x0,xs,x1,x2,x3,x4⟩:=fI (esz:=sz) h1 MN;have LW:gD sz (es.take (aap es.length len)):=fun e he=>x0 e (aaV he)
       have hnl:(an (es.take (aap es.length len))).length=aap es.length len * sz:=by
        rw [dH LW,aaT,aaW (aa4 _ _)]
       have Ur:an es=an (es.take (aap es.length len))++an (es.drop (aap es.length len)):=by rw [← bZ,aaU]
       have dJ:aL R w (an (es.take (aap es.length len))) (xs.take (aap es.length len * sz)):=by
        have:=x1.take (aap es.length len * sz);rw [Ur,← hnl,List.take_left,hnl] at this;exact this
       have zG:(xs.take (aap es.length len * sz)).length=aap es.length len * sz:=by rw [← dJ.length,hnl]
       have xz:∀ v∈xs.take (aap es.length len * sz),v.oneCell'=true:=fun v hv=>x2 v (aaV hv)
       have wB:(aa8 cx).run E.P w=.ok es.length w∧(aav sz (aap es.length len) cx).run E.P w=.ok ⟨xs.take (aap es.length len * sz)⟩ w:=by
        rcases x4 with ⟨rfl,rfl,ad,rfl,_⟩|⟨b',o',BT,rfl,_,_,j8,_⟩
        ·exact ⟨rfl,by cases ad <;> simp [aav,loadCells,loadCellsFrom]⟩
        ·refine ⟨rfl,?_⟩;exact run_firstCells_some (P:=E.P) w sz _ ⟨b',o',none⟩ es.length BT _ zG (fun j v hv=>j8 j v (by rw [aaO] at hv; split at hv <;> first | exact hv | cases hv))
       have bp:=uN (P:=E.P) (tl:=tl) (ty:=o.type) (off:=off) (cap:=cap) e2 f1 f2 b1 wB.1 rfl wB.2 (by rw [zG,← hnl,← b2.length]; exact hle) xz;obtain ⟨r1,r2⟩:=h.setRow hg hb b1 (b2.bu dJ hle) (kw b3 xz);exact ⟨_,_,_,R,β,fT bp,.inl rfl,r1.put o.dst (x:=.v (.int .i64 (aap es.length len))) (Rel.int _ _),by rw [bf]; exact r2⟩
      ·cases hc
     ·cases hc
    ·rename_i bs;split at hc
     ·rename_i bI;rw [aao] at bI;have O2:=aal bI.1;subst O2;have hle:=aaq bI.2;injection hc with hc; injection hc with p q;subst p; subst q;cases h1;have PK:(bs.take (aap bs.length len)).length=aap bs.length len:=by rw [aaT,aaW (aa4 _ _)]
      have SF:((bs.take (aap bs.length len)).map um).length=(bs.take (aap bs.length len)).length:=aaN _;have dJ:aL R w ((bs.take (aap bs.length len)).map um) ((bs.take (aap bs.length len)).map fun b=>abb .u8 b.toNat):=by
       generalize bs.take (aap bs.length len)=l
       induction l with
       |nil=>exact .nil
       |cons b l ih=>exact .cons (Rel.int .u8 b.toNat) ih
      have xz:∀ v∈(bs.take (aap bs.length len)).map (fun b:UInt8=>abb .u8 b.toNat),v.oneCell'=true:=fun v hv=>by
       obtain ⟨b,_,rfl⟩:=aa1.1 hv;rfl
      have zG:((bs.take (aap bs.length len)).map fun b:UInt8=>abb .u8 b.toNat).length=(bs.take (aap bs.length len)).length:=aaN _;have wB:(aav 1 (aap bs.length len) (.string ⟨⟨bs⟩⟩)).run E.P w=.ok ⟨(bs.take (aap bs.length len)).map fun b:UInt8=>abb .u8 b.toNat⟩ w:=by
       simp [aav]
      have bp:=uN (P:=E.P) (tl:=tl) (ty:=o.type) (off:=off) (cap:=cap) (src:=.string ⟨⟨bs⟩⟩) (sLen:=bs.length) e2 f1 f2 b1 rfl rfl wB (by rw [zG,← b2.length]; exact hle) xz;obtain ⟨r1,r2⟩:=h.setRow hg hb b1 (b2.bu dJ (by rw [SF]; exact hle)) (kw b3 xz);exact ⟨_,_,_,R,β,fT bp,.inl rfl,r1.put o.dst (x:=.v (.int .i64 (aap bs.length len))) (Rel.int _ _),by rw [bf]; exact r2⟩
     ·cases hc
    ·rename_i iU gR bh GW BT;split at hc
     ·rename_i eZ Ck;dsimp only at hc;split at hc
      ·rename_i l ab0;split at hc
       ·rename_i bI;simp only [aao] at bI;have hle:=aaq bI.2;injection hc with hc; injection hc with p q;subst p; subst q;cases h1 with
        | @jV _ _ _ _ _ b' kX hlc'=>
        obtain ⟨vs',c1,c2,c3,c4⟩:=h.g.obj iU _ _ Ck kX;obtain ⟨s1,s2,s3,s4⟩:=pV ab0 c2 c3;have zG:=s2.length;have wB:=run_firstCells_some (P:=E.P) w sz (aap GW len) ⟨b',gR,none⟩ GW BT _ (by rw [← zG,s1]) (fun j v hv=>by rw [b9,kY c1]; exact s4 j v hv);have bp:=uN (P:=E.P) (tl:=tl) (ty:=o.type) (off:=off) (cap:=cap) e2 f1 f2 b1 (src:=.slice (some ⟨b',gR,none⟩) GW BT) (sLen:=GW) rfl rfl wB (by rw [← zG,← b2.length]; exact hle) s3;obtain ⟨r1,r2⟩:=h.setRow hg hb b1 (b2.bu s2 hle) (kw b3 s3);exact ⟨_,_,_,R,β,fT bp,.inl rfl,r1.put o.dst (x:=.v (.int .i64 (aap GW len))) (Rel.int _ _),by rw [bf]; exact r2⟩
       ·cases hc
      ·cases hc
     ·cases hc
    ·cases hc
   ·cases hc
  ·cases hc
 ·-- to a slice that grows
  rename_i id f' off sz len;split at hc
  ·rename_i es bh el k szx xs hg;split at hc
   ·rename_i bI;simp only [aao,aa3] at bI;obtain ⟨⟨⟨⟨⟨q1,q2⟩,q3⟩,q4⟩,q5⟩,q6⟩:=bI;have q1:=aal q1;have q2:=aal q2;have I5:f'=es.length:=Nat.le_antisymm (aaq q4) (aaq q5);have q6:=aaq q6;subst q1; subst q2;injection hc with hc; injection hc with p q;subst p; subst q;have MN:xs=[]∨szx=bh:=by
     rcases q3 with hs|hs
     ·exact .inr (aal hs)
     ·exact .inl (by simpa using hs)
    obtain ⟨x0,ws,x1,x2,x3,x4⟩:=fI (esz:=bh) h1 MN;have LW:dX bh (xs.take (aap xs.length len)):=sk _ x0.g;have htl:(xs.take (aap xs.length len)).length=aap xs.length len:=by rw [aaT,aaW (aa4 _ _)]
    have dJ:aL R w (an (xs.take (aap xs.length len))) (ws.take (aap xs.length len * bh)):=by
     rw [gn _ x0.g];exact x1.take _
    have zG:(ws.take (aap xs.length len * bh)).length=aap xs.length len * bh:=by rw [← dJ.length,bM LW,htl]
    have xz:∀ v∈ws.take (aap xs.length len * bh),v.oneCell'=true:=fun v hv=>x2 v (aaV hv)
    have wB:(aa8 cx).run E.P w=.ok xs.length w∧(aav bh (aap xs.length len) cx).run E.P w=.ok ⟨ws.take (aap xs.length len * bh)⟩ w:=by
     rcases x4 with ⟨rfl,rfl,ad,rfl,_⟩|⟨b',o',BT,rfl,_,_,j8,_⟩
     ·exact ⟨rfl,by cases ad <;> simp [aav,loadCells,loadCellsFrom]⟩
     ·refine ⟨rfl,?_⟩;exact run_firstCells_some (P:=E.P) w bh _ ⟨b',o',none⟩ xs.length BT _ zG (fun j v hv=>j8 j v (by rw [aaO] at hv; split at hv <;> first | exact hv | cases hv))
    by_cases Cm:aap xs.length len=0
    ·have MO:∃ base cap,cd=.slice base len cap:=by
      cases h0 with
      |jO=>exact ⟨_,_,rfl⟩
      |de=>exact ⟨_,_,rfl⟩
     obtain ⟨base,cap,rfl⟩:=MO;have PM:=wB.2;rw [Cm] at PM;simp only [Nat.zero_mul,aa5] at PM;have ab1:∀ a:Addr,(storeCells a []).run E.P w=.ok () w:=fun a=>by simp [storeCells]
     have bp:(aaL ⟨t :: tl⟩ o.type #[.slice base len cap,cx]).run E.P w=.ok (.int .i64 (0:Nat)) w:=by
      cases base with
      |none=>simp [aaL,run_underlying e2,run_sizeOf w f1,f2,wB.1,Cm,PM,goInt]
      |some ad=>simp [aaL,run_underlying e2,run_sizeOf w f1,f2,wB.1,Cm,PM,goInt,ab1]
     have hG:s.bq (ak s.G id (.cg (bu es off (xs.take (aap xs.length len))) bh el))=s:=by
      rw [Cm,aa5,eN _ _ _ (by simp; omega)];simp only [List.append_nil,List.length_nil,aa0,aaU];rw [qV hg];rfl
     rw [hG,Cm];exact au h (fT bp) (Rel.int .i64 _)
    ·cases h0 with
     |jO=>exact absurd (Nat.le_zero.1 (Nat.min_le_right _ _)) Cm
     | @de _ _ _ _ _ cap b o' ro ba dG fj=>
     obtain ⟨b',c',cur,vs,rfl,g1,g2,g3,g4,g5,g6,g7,g8,g9⟩:=n9 h.g hg ba (fun k=>by subst k; exact dG);obtain ⟨rfl,Cu,qL⟩:=dG.2 I5;have SF:=Nat.min_le_right xs.length len;have rn:o'=off * bh:=by
      rcases qL with qL|qL
      ·exact qL
      ·exact absurd (by show aap xs.length len=0; omega) Cm
     subst rn;have DC:es.length * bh≤cur.toList.length:=by
      rw [show cur.toList.length=cur.size from aba,g5];exact aaK _ g3
     have hle:off * bh+aap xs.length len * bh≤es.length * bh:=by rw [← Nat.add_mul]; exact aaK _ q6
     have bp:=uN (P:=E.P) (tl:=tl) (ty:=o.type) (vs:=cur.toList) (off:=off * bh) (cap:=cap) (len:=len) e2 f1 f2 g2 wB.1 rfl wB.2 (by rw [zG]; omega) xz;obtain ⟨r1,r2⟩:=h.I8 (off:=off) hg ba g2 g1 g3 g5 g7 g8 g9 (by rw [htl]; exact q6) LW dJ xz;exact ⟨_,_,_,R,β,fT bp,.inl rfl,r1.put o.dst (x:=.v (.int .i64 (aap xs.length len))) (Rel.int _ _),by rw [bf]; exact r2⟩
   ·cases hc
  ·cases hc
 ·cases hc
theorem Hx (h:aY E R w β s a) {args:Array Operand} {t:TypeId} (ho:o.op=.call { callee:=.builtin .clear,args:=args,argTypes:=#[t] }) (hd:o.dst=none) {id f' off sz len:Nat}
  (hl:nL E s.ab args.toList=some [.de id f' off sz len]) {i:TI} (hi:E.ti t=some i) {elem esz eb:Nat} {ag:Bool} {z:AV} (hk:i.k=.sl elem esz ag eb (some z)) {es:List AV} {el:TypeId} (hg:nth s.G id=some (.cg es sz el))
  (eR:sz=esz) (kr:el=elem) (hz:z.cells.length=esz) (mg:z.aR=true) (lF:z.closed=true) (I5:f'=es.length) (GF:off+len≤es.length) :
  bQ E R w β s a o (s.bq (ak s.G id (.cg (bu es off (aas len z)) sz el))):=by
 have hr:=fP h hl;generalize hv:args.toList.map a.eval=vs at hr;have hx:=dL (E:=E) (w:=w) ho vs hv;cases hr with
 | @cons _ cd _ _ h0 h1=>
 cases h1;obtain ⟨hU,ud,e1,e2,e3,e4,e5,e6⟩:=ck E hi;rw [hk] at e5;obtain ⟨ie,ue,rfl,f1,f2,f3,f4,f5,f6⟩:=dq e5;obtain ⟨zc,ab2,BO⟩:=dK f6;have fT:∀ {c:Value} {w':World},(aaR #[t] o.type #[cd]).run E.P w=.ok c w'→(execOp a.eval o).run E.P w=.ok (.value c) w':=fun hh=>by
  rw [hx];simp only [builtin,Sem.run_bind,hh,abd,Sem.run_pure]
 subst eR; subst kr;by_cases Cm:len=0
 ·subst Cm;have MO:∃ base cap,cd=.slice base 0 cap:=by
   cases h0 with
   |jO=>exact ⟨_,_,rfl⟩
   |de=>exact ⟨_,_,rfl⟩
  obtain ⟨base,cap,rfl⟩:=MO;have bp:(aaR #[t] o.type #[.slice base 0 cap]).run E.P w=.ok (.tuple #[]) w:=by
   cases base <;> simp [aaR,run_underlying e2]
  have hG:s.bq (ak s.G id (.cg (bu es off (aas 0 z)) sz el))=s:=by
   rw [List.replicate_zero,eN _ _ _ (by simpa using GF)];simp only [List.append_nil,List.length_nil,aa0,aaU];rw [qV hg];rfl
  rw [hG];have:=au (s:=s) (sv:=.v (.bP [])) h (fT bp) (Rel.bP (R:=R) (w:=w) .nil);rw [hd] at this;exact this
 ·cases h0 with
  |jO=>exact absurd rfl Cm
  | @de _ _ _ _ _ cap b o' ro ba dG fj=>
  obtain ⟨b',c',cur,vs,rfl,g1,g2,g3,g4,g5,g6,g7,g8,g9⟩:=n9 h.g hg ba (fun k=>by subst k; exact dG);obtain ⟨rfl,Cu,qL⟩:=dG.2 I5;have rn:o'=off * sz:=by
   rcases qL with qL|qL
   ·exact qL
   ·omega
  subst rn;obtain ⟨z1,z2⟩:=pf (BO R w) mg len;have hzl:zc.cells.size=sz:=by rw [← hz,(Rel.cells (BO R w) mg).1.length]; simp
  have kz:(abe zc.cells len).toList=(aas len zc.cells.toList).flatten:=by
   simpa [abe] using rb zc.cells len
  have DD:((aas len zc.cells.toList).flatten).length=len * sz:=by rw [← z1.length,dH (fc hz mg lF),aa6]
  have DC:es.length * sz≤cur.toList.length:=by
   rw [show cur.toList.length=cur.size from aba,g5];exact aaK _ g3
  have hle:off * sz+len * sz≤es.length * sz:=by rw [← Nat.add_mul]; exact aaK _ GF
  have iP:=run_storeCells_at (P:=E.P) b (off * sz) el (aas len zc.cells.toList).flatten 0 ⟨cur.toList⟩ w g2 (by rw [DD]; simp only [List.size_toArray]; omega) z2;simp only [aa0] at iP;have bp:(aaR #[t] o.type #[.slice (some ⟨b,off * sz,none⟩) len cap]).run E.P w=.ok (.tuple #[]) (w.setRow b ⟨cur.toList.take (off * sz)++(aas len zc.cells.toList).flatten++cur.toList.drop (off * sz+((aas len zc.cells.toList).flatten).length)⟩):=by
   obtain ⟨m,rfl⟩:∃ m,len=m+1:=⟨len - 1,by omega⟩;simp only [aaR];simp [run_underlying e2,iY w f1 ab2,kz,iP]
  obtain ⟨r1,r2⟩:=h.I8 (off:=off) (ns:=aas len z) hg ba g2 g1 g3 g5 g7 g8 g9 (by rw [aa6]; exact GF) (fc hz mg lF).g z1 z2;exact ⟨_,.tuple #[],_,R,β,fT bp,.inl rfl,by rw [hd]; exact r1,r2⟩
def ai.all (R:ai) (b:Nat):ai:=⟨fun b' o=>R.I b' o∨b'=b,R.obj⟩
theorem uO (R:ai) (w:World) (b:Nat):Ext R w (R.all b) w:=⟨fun _ _ h=>.inl h,fun _ _ _=>rfl,fun _ ro h=>⟨ro,h,cj.refl ro⟩,fb.refl w⟩
theorem eY.freeze {G:List GO} (h:eY E R w G) {id b:Nat} {ro:RO} (ba:nth R.obj id=some ro) (hb:ro.has b) (YC:iE (R.all b) w .dead ro):eY E (R.all b) w (ak G id .dead):=by
 have e:=uO R w b;have bW:=h.bT ⟨id,ro,ba,hb⟩;refine ⟨by show R.obj.length=_; rw [cw]; exact h.len,fun iU go jR q1 q2=>?_,h.inj,fun b' o ho=>?_,fun g cs wv=>(h.dF g cs wv).mono e,h.lo⟩
 ·rcases b8 q1 with ⟨rfl,rfl,_⟩|⟨cq,q1⟩
  ·have:jR=ro:=aaX (q2.symm.trans ba);subst this;exact YC
  ·refine (h.obj iU go jR q1 q2).mono e (fun _ _=>rfl) (fun b' o kX ho=>?_);rcases ho with ho|ho
   ·exact ho
   ·subst ho;exact absurd (h.inj id iU _ _ b' ba q2 hb kX) cq
 ·rcases ho with ho|ho
  ·exact h.wf b' o ho
  ·subst ho; exact bW
theorem rv:∀ {l:List AV} {x:AV},aF l=true→x∈l→x.closed=true
 |[],_,_,h=>by simp at h
 |a :: l,x,h,hx=>by
  simp only [aF,aao] at h;rcases List.mem_cons.1 hx with rfl|hx
  ·exact h.1
  ·exact rv h.2 hx
theorem uP:∀ l r:List AV,nV (l++r)=nV l++nV r
 |[],_=>rfl
 |a :: l,r=>by simp only [List.cons_append,nV,uP l r]
theorem uQ:∀ l:List AV,(nV l).length=l.length
 |[]=>rfl
 |a :: l=>by simp only [nV,List.length_cons,uQ l]
theorem zT (e:AV):e.hJ.cells=nV e.cells:=by
 cases e with
 |list k sz es=>cases k <;> simp only [AV.hJ,AV.cells,nV]
 |_=>simp only [AV.hJ,AV.cells,nV]
theorem Fe (e:AV):e.hJ.aR=e.aR:=by
 cases e with
 |list k sz es=>cases k <;> simp only [AV.hJ,AV.aR]
 |_=>simp only [AV.hJ,AV.aR]
theorem xA:∀ es:List AV,an (es.map AV.hJ)=nV (an es)
 |[]=>rfl
 |e :: es=>by simp only [aa9,an,zT,xA es,uP]
theorem PN {wk:Bool} {es:List AV} {vs:List Value} (h:aL R w (an es) vs):aL R w (an (Cg wk es)) vs:=by
 cases wk with
 |false=>exact h
 |true=>
  show aL R w (an (es.map AV.hJ)) vs;rw [xA];exact h.hJ
theorem Hy (wk:Bool) (es:List AV):(Cg wk es).length=es.length:=by
 cases wk
 ·rfl
 ·exact aaN _
theorem MP (wk:Bool) (n:Nat) (es:List AV):Cg wk (es.take n)=(Cg wk es).take n:=by
 cases wk
 ·rfl
 ·exact List.map_take
theorem Jg (wk:Bool):Cg wk []=[]:=by cases wk <;> rfl
theorem MQ {wk:Bool} {sz:Nat} {es:List AV} (h:dX sz es) (hc:aF (Cg wk es)=true):gD sz (Cg wk es):=by
 cases wk with
 |false=>exact fun x hx=>⟨(h x hx).1,(h x hx).2,rv hc hx⟩
 |true=>
  intro x hx;refine ⟨?_,?_,rv hc hx⟩
  ·obtain ⟨y,hy,rfl⟩:=aa1.1 hx;rw [zT,uQ];exact (h y hy).1
  ·obtain ⟨y,hy,rfl⟩:=aa1.1 hx;rw [Fe];exact (h y hy).2
theorem kD {wk:Bool} {G:List GO} (h:eY E R w G) {id f sz len:Nat} {es:List AV} {el:TypeId} (hid:nth G id=some (.cg es sz el)) (hf:f=es.length) (hl:len≤es.length) (iz:aF (Cg wk es)=true) {ro:RO} (ba:nth R.obj id=some ro) :
  ∃ R',eY E R' w (ak G id .dead)∧Ext R w R' w∧R'.obj=R.obj∧(∀ b o,R'.I b o→R.I b o∨ro.has b)∧∀ c,Rel R w (.de id f 0 sz len) c→Rel R' w (.list .gQ sz (Cg wk (es.take len))) c:=by
 by_cases hn:ro=.a8
 ·subst hn;have he:es=[]:=h.obj id _ _ hid ba;subst he;refine ⟨R,?_,Ext.refl R w,rfl,fun _ _ hi=>.inl hi,fun c hc=>?_⟩
  ·refine ⟨by rw [cw]; exact h.len,fun iU go jR q1 q2=>?_,h.inj,h.wf,h.dF,h.lo⟩;rcases b8 q1 with ⟨rfl,rfl,_⟩|⟨cq,q1⟩
   ·have:jR=.a8:=aaX (q2.symm.trans ba);subst this;trivial
   ·exact h.obj iU go jR q1 q2
  ·rw [List.take_nil,Jg];cases hc with
   |jO=>exact .jN
   |de h1 h2 _=>
    rw [ba] at h1;cases h1;exact h2.elim
 ·obtain ⟨b,c',cur,vs,rfl,g0,g2,g3,g4,g5,g6,g7,g8,g9⟩:=n9 h hid ba hn;have g1:gD sz (Cg wk es):=MQ g0 iz;have e:=uO R w b;refine ⟨R.all b,h.freeze ba rfl (bz g2),e,rfl,fun b' o hi=>?_,fun c hc=>?_⟩
  ·rcases hi with hi|rfl
   ·exact .inl hi
   ·exact .inr rfl
  ·cases hc with
   |jO h1 h2=>
    rw [ba] at h1;cases h1;simp only [oF] at h2;omega
   | @de _ _ _ _ _ cap b1 o1 _ h1 h2 h3=>
    rw [ba] at h1;cases h1;obtain ⟨rfl,k2,k3⟩:=h2.2 hf;by_cases wj:len=0
    ·subst wj;rw [aa5,Jg];exact Rel.list .nil rfl h3 trivial
    rw [MP];refine Rel.list (wg len (mB g1 (fN.make ((PN g7).mono e) g8 (fun j v hj=>?_) (fun j hj=>.inr rfl)))) (by rw [aaT,Hy,aaW hl]) h3 trivial;have ho:o1=0:=by
     rcases k3 with k3|k3
     ·rw [k3,Nat.zero_mul]
     ·omega
    subst ho;rw [Nat.zero_add,cell_of_row w b1 j cur el (0,0) g2];rw [← g9,aaO] at hj;split at hj
    ·rw [← aa7]; exact hj
    ·cases hj
theorem Hz (s:St) (p x:SV):tA s p x=(true,x,s.G)∨∃ id1 f1 i1 t1 id f sz len es bh el,p=.v (.gp id1 f1 i1 0 1 t1)∧x=.v (.de id f 0 sz len)∧nth s.G id=some (.cg es bh el) ∧
  tA s p x=(decide (f=es.length)&&decide (len=es.length)&&aaI sz bh&&aF es,.v (.list .gQ sz es),ak s.G id .dead):=by
 unfold tA;split
 ·rename_i id1 f1 i1 t1 id f sz len;split
  ·rename_i es bh el hid;exact .inr ⟨id1,f1,i1,t1,id,f,sz,len,es,bh,el,rfl,rfl,hid,rfl⟩
  ·exact .inl rfl
 ·exact .inl rfl
theorem Ff (h:aY E R w β s a) (t:TypeId) (p x:Operand) (ho:o.op=.store t p x) (hd:o.dst=none) {s':St} (hs:lD E s t (bG E s.ab p) (bG E s.ab x)=some (true,s')) :
  bQ E R w β s a o s':=by
 unfold lD at hs;split at hs
 ·rename_i c s1 iP;injection hs with hs; injection hs with hc hs;subst hs;rw [aao] at hc;obtain ⟨PO,rfl⟩:=hc;rcases Hz s (bG E s.ab p) (bG E s.ab x) with e|⟨id1,f1,i1,t1,id,f,sz,len,es,bh,el,hp,hx,hid,e⟩
  ·rw [e] at iP;exact EY h t p x ho hd iP
  ·rw [e] at iP PO;simp only [aao,decide_eq_true_eq] at PO;obtain ⟨⟨⟨yk,hle⟩,eR⟩,iz⟩:=PO;have eR:=aal eR;subst eR;have rx:=aV h x;rw [hx] at rx;have k2:Rel R w (.de id f 0 sz len) (a.eval x):=rx;obtain ⟨ro,ba⟩:∃ ro,nth R.obj id=some ro:=by
    have k3:=k2;generalize a.eval x=c0 at k3;cases k3 with
    |jO q _=>exact ⟨_,q⟩
    |de q _ _=>exact ⟨_,q⟩
   obtain ⟨R',r1,r2,r3,r4,r5⟩:=kD (wk:=false) h.g hid yk (abc hle) iz ba;have MR:∀ k cs,dR s.boxes k=some cs→¬ ro.has (β k):=fun k cs hk e=>(h.b.box k cs hk).2.2 ⟨id,ro,ba,e⟩
   have uc:∀ b,Live R' b→Live R b:=fun b ⟨i,r,l1,l2⟩=>⟨i,r,by rw [← r3]; exact l1,l2⟩
   have h':aY E R' w β (s.bq (ak s.G id .dead)) a:=⟨r1,h.b.keep r2 (fun _ _ _=>rfl) (fun k cs o hk hi=>(r4 _ o hi).resolve_right (MR k cs hk)) (fun k cs hk hl=>uc _ hl),h.t.mono r2,h.n,h.d.mono r2⟩;have ab4:Step R w β s.boxes R' w β s.boxes:=⟨r2,rfl,rfl,rfl,aax _,fun _ _ _=>rfl,fun b hb ho=>ho.imp (uc b) (fun q=>q),fun b o hi hb hn=>(r4 b o hi).resolve_right fun q=>hn (.inl ⟨id,ro,ba,q⟩)⟩;have r6:=r5 _ k2;rw [hle,aa2] at r6;exact bQ.step rfl ab4 (uD h' t p x ho hd hp (x':=.v (.list .gQ sz es)) r6 (by rw [hp] at iP; exact iP))
 ·cases hs
theorem Fg {f:FuncId} {s':St} (h:aY E R w β s a) (hs:ao E f s o=some (true,s')):bQ E R w β s a o s':=by
 unfold ao at hs;split at hs
 ·rename_i x ho;split at hs
  ·rename_i y hy;cases hs;exact my h x (.inl ho) hy
  ·rename_i k off hy;cases hs;exact my h x (.inl ho) hy
  ·rename_i hy;cases hs;exact my h x (.inl ho) hy
 ·rename_i x ho;split at hs
  ·rename_i y hy;cases hs;exact my h x (.inr ho) hy
  ·rename_i k off hy;cases hs;exact my h x (.inr ho) hy
  ·rename_i hy;cases hs;exact my h x (.inr ho) hy
 ·rename_i c x y ho;split at hs
  ·rename_i t p q h1 h2 h3;cases hs;exact Kp h c x y ho h1 h2 h3
  ·cases hs
 ·rename_i t ho;split at hs
  ·rename_i i hi;split at hs
   ·rename_i z hz;split at hs
    ·rename_i hn;exact G8 h t ho hi hz hn hs
    ·cases hs
   ·cases hs
  ·cases hs
 ·rename_i t x ho;split at hs
  ·rename_i v hv;split at hs
   ·rename_i hn;exact Mn h t x ho hv hn hs
   ·cases hs
  ·cases hs
 ·rename_i t parts ho;split at hs
  ·rename_i v hv;cases hs;exact He h t parts ho hv
  ·cases hs
 ·rename_i t len parts ho;split at hs
  ·rename_i v hv;cases hs;exact yj h t len parts ho hv
  ·cases hs
 ·rename_i t x ho;split at hs
  ·rename_i c v hv;injection hs with hs; injection hs with h1 h2;subst h1; subst h2;exact Hj h t x ho hv
  ·cases hs
 ·rename_i t p x ho;split at hs
  ·rename_i c DF hd iP;injection hs with hs; injection hs with h1 h2;subst h1; subst h2;exact Ff h t p x ho hd iP
  ·cases hs
 ·rename_i op t x y u ho;split at hs
  ·rename_i p q hx hy;split at hs
   ·rename_i c v hv;injection hs with hs; injection hs with h1 h2;subst h1; subst h2;exact Hc h op t u x y ho hx hy hv
   ·rename_i hb;split at hs
    ·rename_i r hr;injection hs with hs; injection hs with h1 h2;subst h2;exact Mp h op t u x y ho hx hy hb hr
    ·split at hs
     ·rename_i r hr;injection hs with hs; injection hs with h1 h2;subst h2;exact Kw h op t u x y ho hx hy hr
     ·cases hs
  ·cases hs
 ·rename_i op t x ho;split at hs
  ·rename_i b hx;cases hs;exact Mq h t x ho hx
  ·rename_i k n hx;cases hs;exact Mr h t x ho hx
  ·cases hs
 ·rename_i t u x ho;split at hs
  ·rename_i c v hc;injection hs with hs; injection hs with h1 h2;subst h1; subst h2;exact DL h t u x ho hc
  ·cases hs
 ·rename_i x ho;split at hs
  ·rename_i id off hx;cases hs;exact oM h x ho hx (.inl ⟨_,_,rfl⟩)
  ·rename_i cs hx;cases hs;exact oM h x ho hx (.inr (.inr ⟨_,rfl⟩))
  ·rename_i k off hx;cases hs;exact oM h x ho hx (.inr (.inl ⟨_,_,rfl⟩))
  ·cases hs
 ·rename_i g x y ho;split at hs
  ·rename_i p q hp hq;cases hs;exact BN h g x y ho hp hq
  ·cases hs
 ·rename_i t x j ho;split at hs
  ·rename_i q hq;cases hs;exact zq h t x j ho hq
  ·cases hs
 ·rename_i t x j ho;split at hs
  ·rename_i v hv;cases hs;exact Ha h t x j ho hv
  ·cases hs
 ·rename_i t x ix ho;split at hs
  ·rename_i c q hq;injection hs with hs; injection hs with h1 h2;subst h1; subst h2;exact zr h t x ix ho hq
  ·cases hs
 ·rename_i t x ix ho;split at hs
  ·rename_i c v hv;injection hs with hs; injection hs with h1 h2;subst h1; subst h2;exact Hb h t x ix ho hv
  ·cases hs
 ·rename_i t x lo hi mx ho;split at hs
  ·rename_i l h' hl hh;split at hs
   ·rename_i c v hv;injection hs with hs; injection hs with h1 h2;subst h1; subst h2;cases mx with
    |none=>exact Hf h t x lo hi ho hl hh hv
    |some m=>
     unfold Dq at hv;split at hv
     ·rename_i hmx;cases hmx
     ·cases hv
   ·cases hs
  ·cases hs
 ·rename_i x j ho;split at hs
  ·rename_i vs hx;split at hs
   ·rename_i v hn;cases hs;exact Dv h x j ho hx hn
   ·cases hs
  ·cases hs
 ·rename_i t x y ho;split at hs
  ·rename_i i k n k' m hi hx hy;split at hs
   ·rename_i elem esz ag eb z hk;split at hs
    ·rename_i bI;simp only [aao] at bI;split at hs
     ·exact DG h t x y ho hi hx hy hk (aal bI.1.1) (aaq bI.1.2) bI.2 hs
     split at hs
     ·split at hs
      ·rename_i lF;injection hs with hs; injection hs with h1 h2;subst h2;exact ym h t x y ho hi hx hy hk (aal bI.1.1) (aaq bI.1.2) bI.2 lF (of_decide_eq_true h1)
      ·cases hs
     ·injection hs with hs; injection hs with h1 h2;subst h2;exact zz h t x y ho hi hx hy hk (aal bI.1.1) (aaq bI.1.2) bI.2 (of_decide_eq_true h1)
    ·cases hs
   ·cases hs
  ·cases hs
 ·rename_i t m k ok ho;split at hs
  ·rename_i v b hv;cases hs;exact E6 h t m k ok ho hv
  ·cases hs
 ·rename_i t m k x ho;split at hs
  ·rename_i DF hd hv;cases hs;exact ru h t m k x (.inl ho) hd hv
  ·cases hs
 ·rename_i t m k x ho;split at hs
  ·rename_i DF hd hv;cases hs;exact ru h t m k x (.inr ho) hd hv
  ·cases hs
 ·rename_i x ho;split at hs
  ·rename_i c v hv;injection hs with hs; injection hs with h1 h2;subst h1; subst h2;exact Ht h x ho hv
  ·cases hs
 ·rename_i t m k ho;split at hs
  ·rename_i c v DF hv;injection hs with hs; injection hs with h1 h2;subst h1; subst h2;exact BS h t m k ho hv
  ·cases hs
 ·rename_i t m st x ho;split at hs
  ·rename_i c DF hd hv;injection hs with hs; injection hs with h1 h2;subst h1; subst h2;exact yu h t m st x ho hd hv
  ·cases hs
 ·rename_i t x ho;split at hs
  ·rename_i i l hi hx;split at hs
   ·rename_i hk;cases hs;exact Hp h t x ho hi hk hx
   ·cases hs
  ·rename_i i id hi hx;split at hs
   ·rename_i hk hg;cases hs;exact E8 h t x ho hi hk hx hg
   ·cases hs
  ·cases hs
 ·rename_i x ho;split at hs
  ·rename_i DF hv;cases hs;exact KG h x ho hv
  ·cases hs
 ·rename_i t ho;cases hs;exact Dz h t ho
 ·rename_i b args tys ho;split at hs
  ·rename_i r hf;cases hs;exact Hu h hf
  ·split at hs
   ·rename_i l hl;have Hv:tys=⟨tys.toList⟩:=rfl;cases b with
    |len=>
     exact Mu h (tys:=tys.toList) (by rw [ho]) hl hs
    |append=>
     unfold cu at hs;split at hs <;> first | (rename_i hb; cases hb; done) | skip
     ·rename_i x k sz ys;split at hs
      ·rename_i t u wF;split at hs
       ·rename_i i hi;split at hs
        ·rename_i elem esz ag eb z hk;split at hs
         ·rename_i bI;simp only [aao,aa3] at bI;obtain ⟨⟨⟨⟨⟨c1,c2⟩,c3⟩,c4⟩,c5⟩,c6⟩:=bI;split at hs
          ·rename_i c v G' ha;injection hs with hs; injection hs with h1 h2;subst h1; subst h2;have Us:=aal c2;subst Us;have wG:tys=#[t,t]:=by rw [Hv,wF]
           rw [wG] at ho;refine E0 h ho hl hi hk ?_ (aaq c3) (aaq c4) (aal c5) c6 ha;rcases c1 with c1|c1
           ·exact .inr (aal c1)
           ·exact .inl (by simpa using c1)
          ·cases hs
         ·cases hs
        ·cases hs
       ·cases hs
      ·cases hs
     ·rename_i x bs;split at hs
      ·rename_i t u wF;split at hs
       ·rename_i i j hi hj;split at hs
        ·rename_i elem esz ag eb z hk XC;split at hs
         ·rename_i bI;simp only [aao] at bI;obtain ⟨⟨⟨c1,c2⟩,c3⟩,c4⟩:=bI;split at hs
          ·rename_i c v G' ha;injection hs with hs; injection hs with h1 h2;subst h1; subst h2;have c1:=aal c1;subst c1;have wG:tys=#[t,u]:=by rw [Hv,wF]
           rw [wG] at ho;exact yq h ho hl hi hj hk XC (aaq c2) (aal c3) c4 ha
          ·cases hs
         ·cases hs
        ·cases hs
       ·cases hs
      ·cases hs
     ·rename_i id f off sz len Ki cap;split at hs
      ·rename_i y1 y2 y3 y4 el t u hid wF;split at hs
       ·rename_i i hi;split at hs
        ·rename_i elem esz ag eb z hk;split at hs
         ·rename_i bI;simp only [aao] at bI;obtain ⟨⟨⟨⟨c1,c2⟩,c3⟩,c4⟩,c5⟩:=bI;split at hs
          ·rename_i c v G' ha;injection hs with hs; injection hs with h1 h2;subst h1; subst h2;have Us:=aal c2;subst Us;have wG:tys=#[t,t]:=by rw [Hv,wF]
           rw [wG] at ho;exact yt h ho hl hid hi hk (aal c1) (aaq c3) (aal c4) c5 ha
          ·cases hs
         ·cases hs
        ·cases hs
       ·cases hs
      ·cases hs
     ·rename_i id f off sz len Ki msz cap;split at hs
      ·rename_i cs el t u hid wF;split at hs
       ·rename_i i hi;split at hs
        ·rename_i elem esz eb z hk;split at hs
         ·rename_i bI;simp only [aao] at bI;obtain ⟨⟨⟨⟨⟨c1,c2⟩,c3⟩,c4⟩,c5⟩,c6⟩:=bI;split at hs
          ·rename_i c v G' ha;injection hs with hs; injection hs with h1 h2;subst h1; subst h2;have Us:=aal c3;subst Us;have wG:tys=#[t,t]:=by rw [Hv,wF]
           rw [wG] at ho;exact wC h ho hl hid hi hk (aal c1) (aaq c4) (aal c5) c6 ha
          ·cases hs
         ·cases hs
        ·cases hs
       ·cases hs
      ·cases hs
     ·rename_i x id f sz len;split at hs
      ·rename_i ys bh el t u hid wF;split at hs
       ·rename_i i hi;split at hs
        ·rename_i elem esz ag eb z hk;split at hs
         ·rename_i bI;simp only [aao] at bI;obtain ⟨⟨⟨⟨⟨⟨⟨⟨⟨c1,c2⟩,c3⟩,c4⟩,c5⟩,c6⟩,c7⟩,c8⟩,c9⟩,c10⟩:=bI;split at hs
          ·rename_i c v G' ha;injection hs with hs; injection hs with h1 h2;subst h1; subst h2;have Us:=aal c6;subst Us;have c1:=aal c1;subst c1;have wG:tys=#[t,t]:=by rw [Hv,wF]
           rw [wG] at ho;exact yp h ho hl hid (aal c3) (aal c4) c5 hi hk (aal c2) (aaq c8) (aal c9) c10 ha
          ·cases hs
         ·cases hs
        ·cases hs
       ·cases hs
      ·cases hs
     ·cases hs
    |copy=>
     unfold cu at hs;split at hs <;> first | (rename_i hb; cases hb; done) | skip
     ·rename_i d x;split at hs
      ·rename_i t tl wF;split at hs
       ·rename_i i hi;split at hs
        ·rename_i elem esz ag eb z hk;split at hs
         ·rename_i n G' hc;injection hs with hs; injection hs with h1 h2;subst h2;have wG:tys=⟨t :: tl⟩:=by rw [Hv,wF]
          rw [wG] at ho;exact KJ h ho hl hi hk hc
         ·cases hs
        ·cases hs
       ·cases hs
      ·cases hs
     ·cases hs
    |clear=>
     unfold cu at hs;split at hs <;> first | (rename_i hb; cases hb; done) | skip
     ·split at hs
      ·rename_i t id f' off sz len hd wF;split at hs
       ·rename_i i es bh el hi hg;split at hs
        ·rename_i elem esz ag eb z hk;split at hs
         ·rename_i bI;simp only [aao] at bI;obtain ⟨⟨⟨⟨⟨c1,c2⟩,c3⟩,c4⟩,c5⟩,c6⟩:=bI;have c1:=aal c1;have c2:=aal c2;have c3:=aal c3;have c4:=aal c4;injection hs with hs; injection hs with h1 h2;subst h2;rw [aao,decide_eq_true_eq,decide_eq_true_eq] at h1;have wG:tys=#[t]:=by rw [Hv,wF]
          rw [wG] at ho;subst c2;exact Hx h ho hd hl hi hk hg c1 c3 c4 c5 c6 h1.1 h1.2
         ·cases hs
        ·cases hs
       ·cases hs
      ·cases hs
     ·cases hs
    |max=>
     unfold cu at hs;split at hs <;> first | (rename_i hb; cases hb; done) | skip
     ·rename_i x l';split at hs
      ·rename_i v hm;cases hs;exact Mw h ho hl hm
      ·cases hs
     ·cases hs
    |min=>
     unfold cu at hs;split at hs <;> first | (rename_i hb; cases hb; done) | skip
     ·rename_i x l';split at hs
      ·rename_i v hm;cases hs;exact Mx h ho hl hm
      ·cases hs
     ·cases hs
    |_=>
     unfold cu at hs;split at hs <;> first | (rename_i hb; cases hb; done) | (cases hs; done)
   ·cases hs
 ·cases hs
theorem uR {wk:Bool}:∀ {cs eZ:List AV} {G G':List GO} {vs:List Value} {R:ai},eY E R w G→aL R w cs vs→oY wk cs G=(true,eZ,G') →
  ∃ R',eY E R' w G'∧aL R' w eZ vs∧Ext R w R' w∧R'.obj=R.obj∧∀ b o,R'.I b o→R.I b o∨Live R b
 |[],eZ,G,G',vs,R,hg,hr,h=>by
  simp only [oY,aaS,true_and] at h;obtain ⟨rfl,rfl⟩:=h;exact ⟨R,hg,hr,Ext.refl R w,rfl,fun _ _ h=>.inl h⟩
 |x :: l,eZ,G,G',vs,R,hg,hr,h=>by
  cases hr with
  |cons h0 hr=>
  unfold oY at h;split at h
  ·rename_i jS;cases jS
  ·rename_i id f sz len l1 jS;obtain ⟨rfl,rfl⟩:=aaZ jS;split at h
   ·rename_i es bh el hid;generalize h2:oY wk l _=q0 at h;obtain ⟨c',q⟩:=q0;obtain ⟨YD,G2⟩:=q;simp only [aaS,aao,decide_eq_true_eq] at h;obtain ⟨⟨⟨⟨⟨hf,hlen⟩,eR⟩,iz⟩,rfl⟩,rfl,rfl⟩:=h;have eR:=aal eR;subst eR;obtain ⟨ro,ba⟩:∃ ro,nth R.obj id=some ro:=by
     cases h0 with
     |jO q _=>exact ⟨_,q⟩
     |de q _ _=>exact ⟨_,q⟩
    obtain ⟨R1,r1,r2,r3,r4,r5⟩:=kD (wk:=wk) hg hid hf (abc hlen) iz ba;have r6:=r5 _ h0;rw [hlen,aa2] at r6;obtain ⟨R2,b1,b2,b3,b4,b5⟩:=uR r1 (hr.mono r2) h2;refine ⟨R2,b1,.cons (r6.mono b3) b2,r2.trans b3,b4.trans r3,fun b o ho=>?_⟩;rcases b5 b o ho with ho|ho
    ·exact (r4 b o ho).imp_right fun hb=>⟨id,ro,ba,hb⟩
    ·obtain ⟨i,r,q1,q2⟩:=ho;rw [r3] at q1;exact .inr ⟨i,r,q1,q2⟩
   ·generalize h2:oY wk l _=q0 at h;obtain ⟨c',q⟩:=q0;simp only [aaS] at h;cases h.1
  ·rename_i a l1 G1 cq jS;obtain ⟨rfl,rfl⟩:=aaZ jS;generalize h2:oY wk l _=q0 at h;obtain ⟨c',YD,G2⟩:=q0;simp only [aaS] at h;obtain ⟨rfl,rfl,rfl⟩:=h;obtain ⟨R2,b1,b2,b3,b4,b5⟩:=uR hg hr h2;exact ⟨R2,b1,.cons (h0.mono b3) b2,b3,b4,b5⟩
theorem rA {cut wk:Bool} {t:Tmp} {s':St} (h:aY E R w β s a) (hs:pQ cut wk s t=some (true,s')):∃ R',aY E R' w β s' a∧Step R w β s.boxes R' w β s'.boxes∧s'.ro=s.ro:=by
 unfold pQ at hs;split at hs
 ·rename_i id f off sz len ht;split at hs
  ·rename_i es bh el hid;split at hs
   ·rename_i bI;rw [aao] at bI;have q1:=aal bI.1;have q2:=aal bI.2;subst q1; subst q2;injection hs with hs; injection hs with h1 h2;rw [aao,aao,decide_eq_true_eq] at h1;obtain ⟨⟨yk,ED⟩,iz⟩:=h1;have hle:len≤es.length:=by
     cases cut with
     |true=>exact of_decide_eq_true ED
     |false=>exact abc (of_decide_eq_true ED)
    have BG:Cg wk (bif cut then es.take len else es)=Cg wk (es.take len):=by
     congr 1;cases cut with
     |true=>rfl
     |false=>
      have:len=es.length:=of_decide_eq_true ED;rw [this,aa2];rfl
    rw [BG] at h2;subst h2;obtain ⟨c,k1,k2⟩:=h.t t (by rw [ht]; simp);rw [ht] at k2;obtain ⟨ro,ba⟩:∃ ro,nth R.obj id=some ro:=by
     have O8:Rel R w (.de id f 0 sz len) c:=k2;cases O8 with
     |jO q _=>exact ⟨_,q⟩
     |de q _ _=>exact ⟨_,q⟩
    obtain ⟨R',r1,r2,r3,r4,r5⟩:=kD h.g hid yk hle iz ba;have MR:∀ k cs,dR s.boxes k=some cs→¬ ro.has (β k):=fun k cs hk e=>(h.b.box k cs hk).2.2 ⟨id,ro,ba,e⟩
    refine ⟨R',⟨r1,?_,?_,h.n,h.d.mono r2⟩,⟨r2,rfl,rfl,rfl,aax _,fun _ _ _=>rfl,fun b hb ho=>?_,fun b o hi hb hn=>?_⟩,rfl⟩
    ·exact h.b.keep r2 (fun _ _ _=>rfl) (fun k cs o hk hi=>(r4 _ o hi).resolve_right (MR k cs hk)) (fun k cs hk hl=>by
      obtain ⟨i,r,l1,l2⟩:=hl;rw [r3] at l1;exact ⟨i,r,l1,l2⟩)
    ·intro i hi;by_cases e:t=i
     ·subst e;rw [aD];exact ⟨c,k1,r5 c k2⟩
     ·rw [aT e] at hi ⊢;obtain ⟨c',l1,l2⟩:=h.t i hi;exact ⟨c',l1,l2.mono r2⟩
    ·rcases ho with ⟨i,r,l1,l2⟩|ho
     ·rw [r3] at l1;exact .inl ⟨i,r,l1,l2⟩
     ·exact .inr ho
    ·rcases r4 b o hi with hi|hi
     ·exact hi
     ·exact absurd (.inl ⟨id,ro,ba,hi⟩) hn
   ·cases hs
  ·cases hs
 ·-- an object's cells never change again
  rename_i id ht;split at hs
  ·rename_i cs el hid;injection hs with hs; injection hs with h1 h2;subst h2;obtain ⟨c,k1,k2⟩:=h.t t (by rw [ht]; simp);rw [ht] at k2;have O8:Rel R w (.ptr id 0) c:=k2;cases O8 with
   | @ptr _ _ b ba=>
   obtain ⟨vs,b1,b2,b3,b4⟩:=h.g.obj id _ _ hid ba;have r2:=uO R w b;have r1:=h.g.freeze ba rfl (show iE (R.all b) w .dead (.bE b) from bz b1);have MR:∀ k cs,dR s.boxes k=some cs→β k≠b:=fun k cs hk e=>(h.b.box k cs hk).2.2 ⟨id,_,ba,by rw [e]; rfl⟩
   refine ⟨R.all b,⟨r1,?_,?_,h.n,h.d.mono r2⟩,⟨r2,rfl,rfl,rfl,aax _,fun _ _ _=>rfl,fun _ _ ho=>ho,fun b' o hi hb hn=>?_⟩,rfl⟩
   ·exact h.b.keep r2 (fun _ _ _=>rfl) (fun k cs o hk hi=>hi.resolve_right (MR k cs hk)) (fun _ _ _ hl=>hl)
   ·intro i hi;by_cases e:t=i
    ·subst e;rw [aD];refine ⟨_,k1,Rel.ep (fN.make (b2.mono r2) b3 (fun j v hv=>?_) (fun j _=>.inr rfl))⟩;rw [kY b1,Nat.zero_add];exact hv
    ·rw [aT e] at hi ⊢;obtain ⟨c',l1,l2⟩:=h.t i hi;exact ⟨c',l1,l2.mono r2⟩
   ·rcases hi with hi|rfl
    ·exact hi
    ·exact absurd (.inl ⟨id,_,ba,rfl⟩) hn
  ·cases hs
 ·-- the parts of a value
  rename_i cs ht;cases h2:oY wk cs s.G with
  |mk c' q=>
  obtain ⟨eZ,G'⟩:=q;rw [h2] at hs;injection hs with hs; injection hs with h3 hs;subst h3;subst hs;obtain ⟨c,k1,k2⟩:=h.t t (by rw [ht]; simp);rw [ht] at k2;have O8:Rel R w (.agg cs) c:=k2;cases O8 with
  | @agg _ vs k3 k4=>
  obtain ⟨R',r1,r2,r3,r4,r5⟩:=uR h.g k3 h2;have live:∀ b,Live R' b→Live R b:=fun b ⟨i,r,q1,q2⟩=>⟨i,r,by rw [← r4]; exact q1,q2⟩
  refine ⟨R',⟨r1,?_,?_,h.n,h.d.mono r3⟩,⟨r3,rfl,rfl,rfl,aax _,fun _ _ _=>rfl,fun b hb ho=>?_,fun b o hi hb hn=>?_⟩,rfl⟩
  ·exact h.b.keep r3 (fun _ _ _=>rfl) (fun k cs o hk hi=>(r5 _ o hi).resolve_right (h.b.box k cs hk).2.2) (fun k cs hk hl=>live _ hl)
  ·intro i hi;by_cases e:t=i
   ·subst e;rw [aD];exact ⟨_,k1,Rel.agg r2 k4⟩
   ·rw [aT e] at hi ⊢;obtain ⟨c',l1,l2⟩:=h.t i hi;exact ⟨c',l1,l2.mono r3⟩
  ·rcases ho with ho|ho
   ·exact .inl (live b ho)
   ·exact .inr ho
  ·rcases r5 b o hi with hi|hi
   ·exact hi
   ·exact absurd (.inl hi) hn
 ·cases hs
theorem jx {cut wk:Bool}:∀ {l:List Operand} {R:ai} {s s':St},aY E R w β s a→jg cut wk l s=(true,s')→∃ R',aY E R' w β s' a∧Step R w β s.boxes R' w β s'.boxes∧s'.ro=s.ro
 |[],R,s,s',h,hs=>by
  simp only [jg] at hs;cases hs;exact ⟨R,h,Step.refl _ _ _ _,rfl⟩
 |.tmp t :: l,R,s,s',h,hs=>by
  unfold jg at hs;split at hs
  ·rename_i c s1 h1;cases h2:jg cut wk l s1 with
   |mk c' s2=>
   rw [h2] at hs;simp only [aaS,aao] at hs;obtain ⟨⟨rfl,rfl⟩,rfl⟩:=hs;obtain ⟨R1,k1,k2,k3⟩:=rA h h1;obtain ⟨R2,l1,l2,l3⟩:=jx k1 h2;exact ⟨R2,l1,k2.trans l2,l3.trans k3⟩
  ·exact jx h hs
 |.const _ :: l,R,s,s',h,hs=>jx (l:=l) h hs
 |.global _ :: l,R,s,s',h,hs=>jx (l:=l) h hs
 |.func _ :: l,R,s,s',h,hs=>jx (l:=l) h hs
theorem MS {f:FuncId} {s':St} (h:aY E R w β s a) (hs:Kj E f s o=some (true,s')):∃ R',aY E R' w β s' a∧Step R w β s.boxes R' w β s'.boxes∧s'.ro=s.ro:=by
 unfold Kj at hs;split at hs
 ·split at hs
  ·injection hs with hs;exact jx h hs
  ·cases hs
 ·cases hs
end ops
end Go.Am
namespace Go.Am
open Go
structure aK (s s':St):Prop where
 sl:∃ pre,s'.ab=pre++s.ab
 bx:∃ pre,s'.boxes=pre++s.boxes
 n:s'.n=s.n
theorem aK.refl (s:St):aK s s:=⟨⟨[],rfl⟩,⟨[],rfl⟩,rfl⟩
theorem aK.trans {a b c:St} (h:aK a b) (k:aK b c):aK a c:=by
 obtain ⟨p,hp⟩:=h.sl; obtain ⟨q,hq⟩:=k.sl; obtain ⟨p',hp'⟩:=h.bx; obtain ⟨q',YE⟩:=k.bx;exact ⟨⟨q++p,by rw [hq,hp,List.append_assoc]⟩,⟨q'++p',by rw [YE,hp',List.append_assoc]⟩,k.n.trans h.n⟩
section
variable {E:Env} {R R':ai} {w w':World} {β β':Nat→Nat} {s s':St} {a a':Act}
def ig (R:ai):ai:=⟨R.I,R.obj++[.a8]⟩
theorem mE:Ext R w (ig R) w:=⟨fun _ _ h=>h,fun _ _ _=>rfl,fun _ r h=>⟨r,bn h,cj.refl r⟩,fb.refl w⟩
theorem tP {b:Nat} (h:Live (ig R) b):Live R b:=by
 obtain ⟨id,r,h1,h2⟩:=h;rcases ah h1 with h1|⟨_,rfl⟩
 ·exact ⟨id,r,h1,h2⟩
 ·simp [RO.has] at h2
def Ut (n sz:Nat):AV:=bif aaM 65536 sz then .de n 0 0 (sz - 65536) 0 else .list (.own n) sz []
def LX (sz:Nat) (e:TypeId):GO:=bif aaM 65536 sz then .cg [] (sz - 65536) e else .tok 0 sz e
theorem PP (sz:Nat) (e:TypeId):iE R w (LX sz e) .a8:=by
 unfold LX;cases aaM 65536 sz
 ·exact rfl
 ·exact rfl
theorem Jh {n sz:Nat} (hn:nth R.obj n=some .a8):Rel R w (Ut n sz) (.slice none 0 0):=by
 unfold Ut;cases aaM 65536 sz
 ·exact .me hn trivial
 ·exact .jO hn trivial
theorem eY.CC {G:List GO} (h:eY E R w G) (sz:Nat) (e:TypeId):eY E (ig R) w (G++[LX sz e]):=by
 refine ⟨by simp [ig,h.len],fun id g r h1 h2=>?_,fun i j ri rj b h1 h2 b1 b2=>?_,h.wf,fun g cs hg=>(h.dF g cs hg).mono mE,h.lo⟩
 ·rcases ah h2 with h2|⟨h3,rfl⟩
  ·rcases ah h1 with h1|⟨h4,_⟩
   ·exact (h.obj id g r h1 h2).mono mE (fun _ _=>rfl) (fun _ _ _ h=>h)
   ·have bW:=aU h2;rw [h.len] at bW;omega
  ·rcases ah h1 with h1|⟨h4,rfl⟩
   ·have:=aU h1;rw [h3,h.len] at this;omega
   ·exact PP sz e
 ·rcases ah h1 with g1|⟨_,e1⟩
  ·rcases ah h2 with g2|⟨_,e2⟩
   ·exact h.inj i j ri rj b g1 g2 b1 b2
   ·rw [e2] at b2; simp [RO.has] at b2
  ·rw [e1] at b1; simp [RO.has] at b1
theorem aY.CC (h:aY E R w β s a) (sz:Nat) (e:TypeId):aY E (ig R) w β (s.eF (LX sz e)) a∧Step R w β s.boxes (ig R) w β s.boxes:=by
 refine ⟨⟨h.g.CC sz e,h.b.keep mE (fun _ _ _=>rfl) (fun _ _ _ _ h=>h) (fun _ _ _ hl=>tP hl),h.t.mono mE,h.n,h.d.mono (mE (w:=w))⟩,?_⟩;refine ⟨mE,rfl,rfl,rfl,aax _,fun _ _ _=>rfl,fun b _ ho=>?_,fun _ _ h _ _=>h⟩;rcases ho with ho|ho
 ·exact .inl (tP ho)
 ·exact .inr ho
inductive Loc
 |slot (t:Tmp)
 |box (k i:Nat)
 |row (id i:Nat)
def uS (s:St) (l:Loc) (sz:Nat) (e:TypeId):Option St:=
 let v:AV:=Ut s.G.length sz
 match aaM 196608 sz with
 |true=>some (s.eF (bif aaM 1048576 sz then .gT [] (sz - 1048576) e else .aX [] (sz - 196608) e))
 |false=>match l with
 |.slot t=>match lk s.ab t with
  |.v (.list .nil _ [])=>some ⟨.put t (.v v) :: s.ab,s.boxes,s.G++[LX sz e],s.marks,s.ro,s.n⟩
  |_=>none
 |.box k i=>match dR s.boxes k with
  |some cs=>match nth cs i with
   |some (.list .nil _ [])=>some ⟨s.ab,(k,ak cs i v) :: s.boxes,s.G++[LX sz e],s.marks,s.ro,s.n⟩
   |_=>none
  |none=>none
 |.row id i=>match nth s.G id with
  |some (.row cs el)=>match nth cs i with
   |some (.list .nil _ [])=>some ⟨s.ab,s.boxes,ak s.G id (.row (ak cs i v) el)++[LX sz e],s.marks,s.ro,s.n⟩
   |_=>none
  |_=>none
def wH (s:St) (l:Loc) (sz:Nat) (e:TypeId):Option St:=match aaM 2097152 sz with
 |true=>some (s.eF (LX (65536+(sz - 2097152)) e))
 |false=>uS s l sz e
def ij:List (Loc × Nat × TypeId)→St→Option St
 |[],s=>some s
 |(l,sz,e) :: r,s=>match wH s l sz e with
  |some s'=>ij r s'
  |none=>none
theorem aL.ak {l:List AV} {cs:List Value} (h:aL R w l cs) {i:Nat} {x y:AV} (hx:nth l i=some x) (hw:∀ c,Rel R w x c→Rel R w y c):aL R w (Am.ak l i y) cs:=by
 induction l generalizing cs i with
 |nil=>simp [nth] at hx
 |cons a l ih=>
  cases h with
  |cons h t=>
   cases i with
   |zero=>simp only [nth] at hx; cases hx; exact .cons (hw _ h) t
   |succ i=>exact .cons h (ih t hx)
theorem aY.Uu (h:aY E R w β s a) (sz:Nat) (e:TypeId):aY E (R.add (.aX [])) w β (s.eF (.aX [] sz e)) a∧Step R w β s.boxes (R.add (.aX [])) w β s.boxes:=by
 have no:∀ b,¬ RO.has (.aX []) b:=fun b ⟨j,f,c,hj⟩=>by simp [nth] at hj
 have ext:Ext R w (R.add (.aX [])) w:=⟨fun _ _ h=>h,fun _ _ _=>rfl,fun _ r h=>⟨r,bn h,cj.refl r⟩,fb.refl w⟩;have live:∀ b,Live (R.add (.aX [])) b→Live R b:=fun b ⟨id,r,h1,h2⟩=>by
  rcases ah h1 with h1|⟨_,rfl⟩
  ·exact ⟨id,r,h1,h2⟩
  ·exact absurd h2 (no b)
 refine ⟨⟨⟨by simp [St.eF,ai.add,h.g.len],fun id g r h1 h2=>?_,fun i j ri rj b h1 h2 b1 b2=>?_,h.g.wf,fun g cs hg=>(h.g.dF g cs hg).mono ext,h.g.lo⟩,h.b.keep ext (fun _ _ _=>rfl) (fun _ _ _ _ h=>h) (fun _ _ _ hl=>live _ hl),h.t.mono ext,h.n,h.d.mono ext⟩,?_⟩
 ·rcases ah h2 with h2|⟨h3,rfl⟩
  ·rcases ah h1 with h1|⟨h4,_⟩
   ·exact (h.g.obj id g r h1 h2).mono ext (fun _ _=>rfl) (fun _ _ _ h=>h)
   ·have bW:=aU h2;rw [h.g.len] at bW;omega
  ·rcases ah h1 with h1|⟨h4,rfl⟩
   ·have:=aU h1;rw [h3,h.g.len] at this;omega
   ·exact ⟨rfl,fun i j f b c f' c' hi=>by simp [nth] at hi,fun j f t hj=>by simp [nth] at hj⟩
 ·rcases ah h1 with g1|⟨_,e1⟩
  ·rcases ah h2 with g2|⟨_,e2⟩
   ·exact h.g.inj i j ri rj b g1 g2 b1 b2
   ·rw [e2] at b2; exact absurd b2 (no b)
  ·rw [e1] at b1; exact absurd b1 (no b)
 ·refine ⟨ext,rfl,rfl,rfl,aax _,fun _ _ _=>rfl,fun b _ ho=>?_,fun _ _ h _ _=>h⟩;rcases ho with ho|ho
  ·exact .inl (live b ho)
  ·exact .inr ho
theorem aY.Uv (h:aY E R w β s a) (sz:Nat) (e:TypeId):aY E (R.add (.aX [])) w β (s.eF (.gT [] sz e)) a∧Step R w β s.boxes (R.add (.aX [])) w β s.boxes:=by
 have no:∀ b,¬ RO.has (.aX []) b:=fun b ⟨j,f,c,hj⟩=>by simp [nth] at hj
 have ext:Ext R w (R.add (.aX [])) w:=⟨fun _ _ h=>h,fun _ _ _=>rfl,fun _ r h=>⟨r,bn h,cj.refl r⟩,fb.refl w⟩;have live:∀ b,Live (R.add (.aX [])) b→Live R b:=fun b ⟨id,r,h1,h2⟩=>by
  rcases ah h1 with h1|⟨_,rfl⟩
  ·exact ⟨id,r,h1,h2⟩
  ·exact absurd h2 (no b)
 refine ⟨⟨⟨by simp [St.eF,ai.add,h.g.len],fun id g r h1 h2=>?_,fun i j ri rj b h1 h2 b1 b2=>?_,h.g.wf,fun g cs hg=>(h.g.dF g cs hg).mono ext,h.g.lo⟩,h.b.keep ext (fun _ _ _=>rfl) (fun _ _ _ _ h=>h) (fun _ _ _ hl=>live _ hl),h.t.mono ext,h.n,h.d.mono ext⟩,?_⟩
 ·rcases ah h2 with h2|⟨h3,rfl⟩
  ·rcases ah h1 with h1|⟨h4,_⟩
   ·exact (h.g.obj id g r h1 h2).mono ext (fun _ _=>rfl) (fun _ _ _ h=>h)
   ·have bW:=aU h2;rw [h.g.len] at bW;omega
  ·rcases ah h1 with h1|⟨h4,rfl⟩
   ·have:=aU h1;rw [h3,h.g.len] at this;omega
   ·exact ⟨rfl,fun i j f b c f' c' hi=>by simp [nth] at hi,fun j f t hj=>by simp [nth] at hj⟩
 ·rcases ah h1 with g1|⟨_,e1⟩
  ·rcases ah h2 with g2|⟨_,e2⟩
   ·exact h.g.inj i j ri rj b g1 g2 b1 b2
   ·rw [e2] at b2; exact absurd b2 (no b)
  ·rw [e1] at b1; exact absurd b1 (no b)
 ·refine ⟨ext,rfl,rfl,rfl,aax _,fun _ _ _=>rfl,fun b _ ho=>?_,fun _ _ h _ _=>h⟩;rcases ho with ho|ho
  ·exact .inl (live b ho)
  ·exact .inr ho
theorem Fh {l:Loc} {sz:Nat} {e:TypeId} (h:aY E R w β s a) (HA:aaM 196608 sz=false) (hs:uS s l sz e=some s'):aY E (ig R) w β s' a∧Step R w β s.boxes (ig R) w β s'.boxes∧s'.ro=s.ro∧aK s s':=by
 obtain ⟨h1,h2⟩:=h.CC sz e;have hn:nth (ig R).obj s.G.length=some .a8:=by
  rw [← h.g.len]; exact bS _ _
 have hw:∀ (bh:Nat) (c:Value),Rel (ig R) w (.list .nil bh []) c→Rel (ig R) w (Ut s.G.length sz) c:=fun bh c hc=>by
  cases hc with
  |jZ=>exact Jh hn
  |list _ _ _ hk=>exact hk.elim
 unfold uS at hs;rw [HA] at hs;cases l with
 |slot t=>
  simp only at hs;split at hs
  ·rename_i bh ht;cases hs;refine ⟨⟨h1.g,h1.b,fun i hi=>?_,h1.n,h1.d⟩,h2,rfl,⟨⟨[_],rfl⟩,⟨[],rfl⟩,rfl⟩⟩;by_cases e:t=i
   ·subst e;rw [aD];obtain ⟨c,k1,k2⟩:=h1.t t (by show lk s.ab t≠_; rw [ht]; simp);have O8:qJ (ig R) w β (lk s.ab t) c:=k2;rw [ht] at O8;exact ⟨c,k1,hw _ _ O8⟩
   ·rw [aT e] at hi ⊢;exact h1.t i hi
  ·cases hs
 |box k i=>
  simp only at hs;split at hs
  ·rename_i cs hk;split at hs
   ·rename_i bh hi;cases hs;have hb:∀ k' eZ,dR ((k,ak cs i (Ut s.G.length sz)) :: s.boxes) k'=some eZ→∃ YF,dR s.boxes k'=some YF:=fun k' eZ iZ=>by
     rcases fR iZ with ⟨rfl,_⟩|⟨_,iZ⟩
     ·exact ⟨cs,hk⟩
     ·exact ⟨eZ,iZ⟩
    refine ⟨⟨h1.g,⟨fun k' eZ iZ=>?_,fun k1 k2 c1 c2 e1 e2 he=>?_⟩,h1.t,h1.n,h1.d⟩,?_,rfl,⟨⟨[],rfl⟩,⟨[_],rfl⟩,rfl⟩⟩
    ·rcases fR iZ with ⟨rfl,rfl⟩|⟨_,iZ⟩
     ·obtain ⟨⟨vs,el,q1,q2,q3⟩,q4⟩:=h1.b.box k cs hk;exact ⟨⟨vs,el,q1,q2.ak hi (hw _),q3⟩,q4⟩
     ·exact h1.b.box k' eZ iZ
    ·obtain ⟨d1,YG⟩:=hb k1 c1 e1;obtain ⟨d2,Uw⟩:=hb k2 c2 e2;exact h.b.inj k1 k2 d1 d2 YG Uw he
    ·refine ⟨h2.ext,rfl,rfl,rfl,aax _,fun _ _ _=>rfl,fun b kX ho=>?_,fun _ _ h _ _=>h⟩;rcases ho with ho|⟨k',eZ,iZ,rfl⟩
     ·exact .inl (tP ho)
     ·obtain ⟨d1,YG⟩:=hb k' eZ iZ;exact .inr ⟨k',d1,YG,rfl⟩
   ·cases hs
  ·cases hs
 |row id i=>
  simp only at hs;split at hs
  ·rename_i cs el hid;split at hs
   ·rename_i bh hi;cases hs;refine ⟨⟨⟨by have:=h1.g.len; simpa [St.eF] using this,fun iU go ro q1 q2=>?_,h1.g.inj,h1.g.wf,h1.g.dF,h1.g.lo⟩,h1.b,h1.t,h1.n,h1.d⟩,h2,rfl,⟨⟨[],rfl⟩,⟨[],rfl⟩,rfl⟩⟩;rcases ah q1 with q1|⟨q3,rfl⟩
    ·rcases b8 q1 with ⟨rfl,rfl,_⟩|⟨cq,q1⟩
     ·have bl:=h1.g.obj id (.row cs el) ro (bn hid) q2;cases ro with
      |bE b=>
       obtain ⟨vs,k1,k2,k3,k4⟩:=bl;exact ⟨vs,k1,k2.ak hi (hw _),k3,k4⟩
      |none=>exact bl.elim
      |a8=>exact bl.elim
      |tok _ _ _=>exact bl.elim
      |aX _=>exact bl.elim
     ·exact h1.g.obj iU go ro (bn q1) q2
    ·refine h1.g.obj iU _ ro ?_ q2;rw [cw] at q3;rw [q3];exact bS _ _
   ·cases hs
  ·cases hs
theorem zU {l:Loc} {sz:Nat} {e:TypeId} (h:aY E R w β s a) (hs:wH s l sz e=some s'):∃ R',aY E R' w β s' a∧Step R w β s.boxes R' w β s'.boxes∧s'.ro=s.ro∧aK s s':=by
 unfold wH at hs;split at hs
 ·cases hs;obtain ⟨h1,h2⟩:=h.CC (65536+(sz - 2097152)) e;exact ⟨_,h1,h2,rfl,⟨⟨[],rfl⟩,⟨[],rfl⟩,rfl⟩⟩
 cases HA:aaM 196608 sz with
 |true=>
  unfold uS at hs;rw [HA] at hs;cases hs;cases aaM 1048576 sz with
  |false=>
   obtain ⟨h1,h2⟩:=h.Uu (sz - 196608) e;exact ⟨_,h1,h2,rfl,⟨⟨[],rfl⟩,⟨[],rfl⟩,rfl⟩⟩
  |true=>
   obtain ⟨h1,h2⟩:=h.Uv (sz - 1048576) e;exact ⟨_,h1,h2,rfl,⟨⟨[],rfl⟩,⟨[],rfl⟩,rfl⟩⟩
 |false=>exact ⟨_,Fh h HA hs⟩
theorem kE:∀ {l:List (Loc × Nat × TypeId)} {R:ai} {s s':St},aY E R w β s a→ij l s=some s'→∃ R',aY E R' w β s' a∧Step R w β s.boxes R' w β s'.boxes∧s'.ro=s.ro∧aK s s'
 |[],R,s,s',h,hs=>by
  simp only [ij] at hs;cases hs;exact ⟨R,h,Step.refl _ _ _ _,rfl,aK.refl _⟩
 |(l,sz,e) :: r,R,s,s',h,hs=>by
  unfold ij at hs;split at hs
  ·rename_i s1 h1;obtain ⟨R0,g1,g2,g3,g4⟩:=zU h h1;obtain ⟨R',k1,k2,k3,k4⟩:=kE g1 hs;exact ⟨R',k1,g2.trans k2,k3.trans g3,g4.trans k4⟩
  ·cases hs
def Ux (s:St) (d:Tmp):List (Option Nat × Nat × TypeId)→Option (List (Loc × Nat × TypeId))
 |[]=>some []
 |(none,sz,e) :: l=>match Ux s d l with
  |some r=>some ((.slot d,65536+sz,e) :: r)
  |none=>none
 |(some c,sz,e) :: l=>match Ux s d l,lk s.ab d with
  |some r,.lp k off=>some ((.box k (off+c),65536+sz,e) :: r)
  |some r,.v (.ptr id off)=>some ((.row id (off+c),65536+sz,e) :: r)
  |some r,.v (.jV id off _ _ _)=>some ((.row id (off+c),65536+sz,e) :: r)
  |_,_=>none
def kS:List (Loc × Nat × TypeId)→St→St
 |[],s=>s
 |(l,sz,e) :: r,s=>match wH s l sz e with
  |some s'=>kS r s'
  |none=>kS r s
theorem rB:∀ {l:List (Loc × Nat × TypeId)} {R:ai} {s:St},aY E R w β s a→∃ R',aY E R' w β (kS l s) a∧Step R w β s.boxes R' w β (kS l s).boxes∧(kS l s).ro=s.ro∧aK s (kS l s)
 |[],R,s,h=>⟨R,h,Step.refl _ _ _ _,rfl,aK.refl _⟩
 |(l,sz,e) :: r,R,s,h=>by
  unfold kS;split
  ·rename_i s1 h1;obtain ⟨R0,g1,g2,g3,g4⟩:=zU h h1;obtain ⟨R',k1,k2,k3,k4⟩:=rB (l:=r) g1;exact ⟨R',k1,g2.trans k2,k3.trans g3,g4.trans k4⟩
  ·exact rB (l:=r) h
def zV (s:St) (t:Tmp):Option (Bool × St):=match lk s.ab t with
 |.v (.de _ _ _ _ _)=>pQ false false s t
 |_=>some (true,s)
def zW (s:St) (t:Tmp):Option (Bool × St):=match lk s.ab t with
 |.v (.de id f 0 sz len)=>match nth s.G id with
  |some (.cg es bh el)=>match nW s.G sz el 0 with
   |some mid=>match nth s.G mid with
    |some (.gT rows gK EE)=>if aaI bh sz&&aaI gK sz&&aaI EE el then
      some (decide (f=es.length)&&decide (len=es.length)&&aF es,⟨.put t (.v (.eX mid rows.length sz len)) :: s.ab,s.boxes,ak (ak s.G id .dead) mid (.gT (rows++[es]) sz el),s.marks,s.ro,s.n⟩) else none
    |_=>none
   |none=>none
  |_=>none
 |_=>none
def so (aX:Bool) (gK:Nat) (e2:TypeId) (s:St) (t:Tmp):Option (Bool × St):=match lk s.ab t with
 |.v (.de id _ _ _ _)=>match nth s.G id with
  |some (.cg es 1 el)=>match aX with
   |true=>match jW s.G gK e2 0 with
    |some kq=>some (wD es,s.bq (ak (ak s.G kq (.aX (jY s.G kq++aas es.length 0) gK e2)) id (.cg ((List.range es.length).map fun j=>.list (.aX kq ((jY s.G kq).length+j)) gK []) 1 el)))
    |none=>none
   |false=>match nW s.G gK e2 0 with
    |some mid=>match nth s.G mid with
     |some (.gT rows XD e3)=>if aaI XD gK&&aaI e3 e2 then
       some (wD es,s.bq (ak (ak s.G mid (.gT (rows++aas es.length []) gK e2)) id (.cg ((List.range es.length).map fun j=>.eX mid (rows.length+j) gK 0) 1 el))) else none
     |_=>none
    |none=>none
  |_=>none
 |_=>none
def HB (mid:Nat) (rows:List (List AV)):AV→AV
 |.eX id j sz len=>bif aaI id mid then .list .gQ sz (rowOf rows j) else .eX id j sz len
 |a=>a
def sZ (mid sz:Nat) (rows:List (List AV)):List AV→Bool
 |[]=>true
 |.eX id j bh len :: l=>(bif aaI id mid then aaI bh sz&&decide (len=(rowOf rows j).length) else true)&&sZ mid sz rows l
 |_ :: l=>sZ mid sz rows l
def yw (mid:Nat) (rows:List (List AV)):AV→AV
 |.agg cs=>.agg (cs.map (HB mid rows))
 |a=>HB mid rows a
def YH:SV→Option Nat
 |.v (.de id _ _ _ _)=>some id
 |.v (.agg (.de id _ _ _ _ :: _))=>some id
 |_=>none
def zX (gK:Nat) (e2:TypeId) (s:St) (t:Tmp):Option (Bool × St):=match YH (lk s.ab t) with
 |some id=>match nth s.G id,nW s.G gK e2 0 with
  |some (.cg es sz el),some mid=>match nth s.G mid with
   |some (.gT rows XD _)=>some (sZ mid XD rows (an es),s.bq (ak (ak s.G mid .dead) id (.cg (es.map (yw mid rows)) sz el)))
   |_=>none
  |_,_=>none
 |none=>none
def uT (k sz:Nat) (s:St) (t:Tmp):Option (Bool × St):=match k with
 |0=>zV s t
 |1=>zW s t
 |2=>so true (sz % 65536) (sz / 65536) s t
 |4=>zX (sz % 65536) (sz / 65536) s t
 |_=>so false (sz % 65536) (sz / 65536) s t
def CD (E:Env) (f:FuncId) (o:Oper) (s:St):Option (Bool × St):=match o.dst with
 |none=>some (true,s)
 |some d=>match E.zg f (d+327680) with
  |true=>pQ false (E.zg f (d+458752)) s d
  |false=>match E.gho f d with
   |[]=>some (true,s)
   |x :: l=>match aaM 1048576 x.2.2,x.1 with
    |true,some t=>uT (x.2.2 - 1048576) x.2.1 s t
    |_,_=>match Ux s d (x :: l) with
     |some r=>some (true,kS r s)
     |none=>none
theorem lf {cut wk:Bool} {s s':St} {t:Tmp} {c:Bool} (h:pQ cut wk s t=some (c,s')):aK s s':=by
 unfold pQ at h
 repeat' (split at h)
 all_goals (first|(cases h; done) | skip)
 all_goals (injection h with h; injection h with _ h; subst h; exact ⟨⟨[_],rfl⟩,⟨[],rfl⟩,rfl⟩)
theorem HC {s s':St} {t:Tmp} {c:Bool} (h:zV s t=some (c,s')):aK s s':=by
 unfold zV at h;split at h
 ·exact lf h
 ·cases h; exact aK.refl _
theorem HD {t:Tmp} (h:aY E R w β s a) (hs:zV s t=some (true,s')):∃ R',aY E R' w β s' a∧Step R w β s.boxes R' w β s'.boxes∧s'.ro=s.ro∧aK s s':=by
 unfold zV at hs;split at hs
 ·obtain ⟨R',r1,r2,r3⟩:=rA h hs;exact ⟨R',r1,r2,r3,lf hs⟩
 ·cases hs;exact ⟨R,h,Step.refl _ _ _ _,rfl,aK.refl _⟩
theorem zY {s s':St} {t:Tmp} {c:Bool} (h:zW s t=some (c,s')):aK s s':=by
 unfold zW at h
 repeat' (split at h)
 all_goals (first|(cases h; done) | skip)
 all_goals (injection h with h; injection h with _ h; subst h; exact ⟨⟨[_],rfl⟩,⟨[],rfl⟩,rfl⟩)
theorem rC {aX:Bool} {gK:Nat} {e2:TypeId} {s s':St} {t:Tmp} {c:Bool} (h:so aX gK e2 s t=some (c,s')):aK s s':=by
 unfold so at h
 repeat' (split at h)
 all_goals (first|(cases h; done) | skip)
 all_goals (injection h with h; injection h with _ h; subst h; exact ⟨⟨[],rfl⟩,⟨[],rfl⟩,rfl⟩)
theorem zZ {gK:Nat} {e2:TypeId} {s s':St} {t:Tmp} {c:Bool} (h:zX gK e2 s t=some (c,s')):aK s s':=by
 unfold zX at h
 repeat' (split at h)
 all_goals (first|(cases h; done) | skip)
 all_goals (injection h with h; injection h with _ h; subst h; exact ⟨⟨[],rfl⟩,⟨[],rfl⟩,rfl⟩)
theorem Fi {k sz:Nat} {s s':St} {t:Tmp} {c:Bool} (h:uT k sz s t=some (c,s')):aK s s':=by
 unfold uT at h;split at h
 ·exact HC h
 ·exact zY h
 ·exact rC h
 ·exact zZ h
 ·exact rC h
theorem HE {t:Tmp} (h:aY E R w β s a) (hs:zW s t=some (true,s')):∃ R',aY E R' w β s' a∧Step R w β s.boxes R' w β s'.boxes∧s'.ro=s.ro∧aK s s':=by
 have hx:=zY hs;unfold zW at hs;split at hs
 ·rename_i id f sz len ht;split at hs
  ·rename_i es bh el hg;split at hs
   ·rename_i mid _;split at hs
    ·rename_i rows gK EE hm;split at hs
     ·rename_i hc;simp only [aao] at hc;obtain ⟨⟨c1,c2⟩,c3⟩:=hc;have c1:=aal c1;have c2:=aal c2;have c3:=aal c3;subst c1; subst c2; subst c3;injection hs with hs; injection hs with h1 h2;simp only [aao,decide_eq_true_eq] at h1;obtain ⟨⟨d1,d2⟩,d3⟩:=h1;obtain ⟨R',r1,r2,r3⟩:=h.MH hg hm d3;subst h2;refine ⟨R',⟨r1.g,r1.b,fun i hi=>?_,r1.n,r1.d⟩,r2,rfl,hx⟩;by_cases e:t=i
      ·subst e;rw [aD];obtain ⟨c,k1,k2⟩:=h.t t (by rw [ht]; simp);rw [ht] at k2;exact ⟨c,k1,r3 f len c d1 d2 k2⟩
      ·rw [aT e] at hi ⊢;exact r1.t i hi
     ·cases hs
    ·cases hs
   ·cases hs
  ·cases hs
 ·cases hs
theorem xB {aX:Bool} {gK:Nat} {e2:TypeId} {t:Tmp} (h:aY E R w β s a) (hs:so aX gK e2 s t=some (true,s')):∃ R',aY E R' w β s' a∧Step R w β s.boxes R' w β s'.boxes∧s'.ro=s.ro∧aK s s':=by
 have hx:=rC hs;have ex:∀ {i:Nat} {g:GO},nth s.G i=some g→∃ ro,nth R.obj i=some ro:=fun {i g} hi=>by
  have:=aU hi;rw [← h.g.len] at this;exact ⟨R.obj[i],by rw [aN]; exact aaQ this⟩
 unfold so at hs;split at hs
 ·rename_i id f off sz len ht;split at hs
  ·rename_i es el hg;split at hs
   ·split at hs
    ·rename_i kq Ho;injection hs with hs; injection hs with h1 h2;subst h2;obtain ⟨fs,hf,_⟩:=mP Ho;rw [Nat.sub_zero] at hf;have SG:jY s.G kq=fs:=by unfold jY; rw [hf]
     rw [SG] at hx ⊢;obtain ⟨ro,ba⟩:=ex hf;have cq:kq≠id:=fun e=>by
      subst e;rw [hf] at hg;cases hg
     obtain ⟨ts,rfl,h3,r1,r2⟩:=h.DH hf (nfs:=aas es.length 0) (nts:=aas es.length .a8) (by simp) (fun j f t hj hk=>by
      rw [aN] at hj hk;rw [List.eq_of_mem_replicate (aaY hj),List.eq_of_mem_replicate (aaY hk)];exact rfl) (fun j f b c hj=>by
      rw [aN] at hj;cases List.eq_of_mem_replicate (aaY hj)) ba
     obtain ⟨k1,k2⟩:=r1.MI (id:=id) (es:=es) (el:=el) (g:=fun j=>.list (.aX kq (fs.length+j)) gK []) (by show nth (ak s.G kq _) id=_; rw [aJ cq]; exact hg) h1 (fun _=>rfl) (fun _=>rfl) (fun j bh c hc=>by
      cases hc with
      |jZ=>exact Rel.mJ (aj ba) trivial
      |list _ _ _ hk=>exact hk.elim)
     exact ⟨_,k1,r2.trans k2,rfl,hx⟩
    ·cases hs
   ·split at hs
    ·rename_i mid _;split at hs
     ·rename_i rows XD e3 hm;split at hs
      ·rename_i hc;simp only [aao] at hc;have c1:=aal hc.1;have c2:=aal hc.2;subst c1; subst c2;injection hs with hs; injection hs with h1 h2;subst h2;obtain ⟨ro,ba⟩:=ex hm;have cq:mid≠id:=fun e=>by
        subst e;rw [hm] at hg;cases hg
       obtain ⟨ts,rfl,h3,r1,r2⟩:=h.Uo hm es.length ba;obtain ⟨k1,k2⟩:=r1.MI (id:=id) (es:=es) (el:=el) (g:=fun j=>.eX mid (rows.length+j) XD 0) (by show nth (ak s.G mid _) id=_; rw [aJ cq]; exact hg) h1 (fun _=>rfl) (fun _=>rfl) (fun j bh c hc=>by
        cases hc with
        |jZ=>exact Rel.tF (aj ba) trivial
        |list _ _ _ hk=>exact hk.elim)
       exact ⟨_,k1,r2.trans k2,rfl,hx⟩
      ·cases hs
     ·cases hs
    ·cases hs
  ·cases hs
 ·cases hs
theorem aY.KK (h:aY E R w β s a) {mid sz:Nat} {el:TypeId} {rows:List (List AV)} (hm:nth s.G mid=some (.gT rows sz el)) :
  ∃ R',aY E R' w β (s.bq (ak s.G mid .dead)) a∧Step R w β s.boxes R' w β s.boxes∧∀ j len c,len=(rowOf rows j).length→Rel R' w (.eX mid j sz len) c→Rel R' w (.list .gQ sz (rowOf rows j)) c:=by
 obtain ⟨ro,ba⟩:∃ ro,nth R.obj mid=some ro:=by
  have:=aU hm;rw [← h.g.len] at this;exact ⟨R.obj[mid],by rw [aN]; exact aaQ this⟩
 have bl:=h.g.obj mid _ _ hm ba;cases ro with
 |none=>exact bl.elim
 |a8=>exact bl.elim
 |bE _=>exact bl.elim
 |tok _ _ _ _=>exact bl.elim
 |aX ts=>
 obtain ⟨hlen,O5,qA⟩:=bl;have kz:∀ {j:Nat} {t:TR},nth ts j=some t→zm R w sz el (rowOf rows j) t:=fun {j t} hj=>by
  have Um:j < rows.length:=by rw [← hlen]; exact aU hj
  have hn:nth rows j=some rows[j]:=by rw [aN]; exact aaQ Um
  have:=qA j _ _ hn hj;unfold rowOf;rw [hn];exact this
 have bW:∀ {j f b c:Nat},nth ts j=some (.tok f b c)→b < w.heap.size:=fun {j f b c} hj=>by
  obtain ⟨_,_,cur,vs,h1,_⟩:=kz hj;exact bz h1
 let R':ai:=⟨fun b o=>R.I b o∨∃ j f c,nth ts j=some (.tok f b c),R.obj⟩
 have e:Ext R w R' w:=⟨fun _ _ h=>.inl h,fun _ _ _=>rfl,fun _ ro h=>⟨ro,h,cj.refl ro⟩,fb.refl w⟩;have MR:∀ k cs,dR s.boxes k=some cs→¬ ∃ j f c,nth ts j=some (.tok f (β k) c):=fun k cs hk q=>(h.b.box k cs hk).2.2 ⟨mid,_,ba,q⟩
 refine ⟨R',⟨⟨by show R.obj.length=_; rw [show (s.bq (ak s.G mid .dead)).G=ak s.G mid .dead from rfl,cw]; exact h.g.len,fun iU go jR q1 q2=>?_,h.g.inj,fun b' o ho=>?_,fun g cs wv=>(h.g.dF g cs wv).mono e,h.g.lo⟩,?_,h.t.mono e,h.n,h.d.mono e⟩,⟨e,rfl,rfl,rfl,aax _,fun _ _ _=>rfl,fun b hb ho=>ho,fun b o hi hb hn=>?_⟩,fun j len c hl hc=>?_⟩
 ·rcases b8 q1 with ⟨rfl,rfl,_⟩|⟨cq,q1⟩
  ·have:jR=.aX ts:=aaX (q2.symm.trans ba);subst this;exact fun j f b c hj=>bW hj
  ·refine (h.g.obj iU go jR q1 q2).mono e (fun _ _=>rfl) (fun b' o kX ho=>?_);rcases ho with ho|ho
   ·exact ho
   ·exact absurd (h.g.inj mid iU _ _ b' ba q2 ho kX) cq
 ·rcases ho with ho|⟨j,f,c,hj⟩
  ·exact h.g.wf b' o ho
  ·exact bW hj
 ·exact h.b.keep e (fun _ _ _=>rfl) (fun k cs o hk hi=>hi.resolve_right (MR k cs hk)) (fun _ _ _ hl=>hl)
 ·rcases hi with hi|hi
  ·exact hi
  ·exact absurd (.inl ⟨mid,_,ba,hi⟩) hn
 ·cases hc with
  |tF h1 h2=>
   rw [List.length_eq_zero_iff.1 hl.symm];exact .jN
  | @eX _ _ _ _ cap b o jR h1 h2 h3=>
   have:jR=.aX ts:=aaX (h1.symm.trans ba);subst this;obtain ⟨t,k1,k2⟩:=h2;have hr:=kz k1;cases t with
   |a8=>exact k2.elim
   |full f=>exact hr.elim
   |tok f b' c'=>
    obtain ⟨hf,g1,cur,vs,g2,g3,g4,g5,g6,g7,g8,g9⟩:=hr;obtain ⟨p1,p2⟩:=k2;obtain ⟨rfl,p3,rfl⟩:=p2 (hl.trans hf.symm);by_cases he:(rowOf rows j)=[]
    ·rw [he];rw [he] at hl;exact Rel.list .nil hl h3 trivial
    ·have mh:0 < (rowOf rows j).length:=List.length_pos_iff.2 he;have ho:o=0:=by omega
     subst ho;refine Rel.list (uF g1 (g7.mono e) g8 (fun i v hv=>?_) (fun i hi=>.inr ⟨j,f,_,k1⟩)) hl h3 trivial;rw [cell_of_row w b i cur el (0,0) g2];rw [← g9,aaO] at hv;split at hv
     ·rw [← aa7]; exact hv
     ·cases hv
theorem z6 {mid sz:Nat} {rows:List (List AV)} (hf:∀ j len c,len=(rowOf rows j).length→Rel R w (.eX mid j sz len) c→Rel R w (.list .gQ sz (rowOf rows j)) c):∀ {l:List AV} {vs:List Value},sZ mid sz rows l=true→aL R w l vs→aL R w (l.map (HB mid rows)) vs
 |[],_,_,h=>by cases h; exact .nil
 |x :: l,_,dG,h=>by
  cases h with
  |cons h0 ht=>
  rw [aa9];unfold sZ at dG;split at dG
  ·rename_i jS; cases jS
  ·rename_i id j bh len l1 jS;obtain ⟨rfl,rfl⟩:=aaZ jS;rw [aao] at dG;refine .cons (show Rel R w (bif aaI id mid then .list .gQ bh (rowOf rows j) else .eX id j bh len) _ from ?_) (z6 hf dG.2 ht);cases hb:aaI id mid with
   |false=>exact h0
   |true=>
    rw [hb] at dG;have e1:=aal hb;subst e1;have h1:(aaI bh sz&&decide (len=(rowOf rows j).length))=true:=dG.1;rw [aao,decide_eq_true_eq] at h1;have e2:=aal h1.1;subst e2;exact hf j len _ h1.2 h0
  ·rename_i y l1 cq jS;obtain ⟨rfl,rfl⟩:=aaZ jS;refine .cons ?_ (z6 hf dG ht);cases x <;> first | exact h0 | exact absurd rfl (cq _ _ _ _)
theorem z7 (mid:Nat) (rows:List (List AV)) (e:AV) (h:e.aR=true):(yw mid rows e).cells=e.cells.map (HB mid rows)∧(yw mid rows e).aR=true:=by
 cases e with
 |agg cs=>exact ⟨rfl,rfl⟩
 |bP cs=>cases h
 |eX id j sz len=>
  have e:yw mid rows (.eX id j sz len)=(bif aaI id mid then .list .gQ sz (rowOf rows j) else .eX id j sz len):=rfl;rw [e];cases hb:aaI id mid with
  |false=>exact ⟨by simp [AV.cells,HB,hb],rfl⟩
  |true=>exact ⟨by simp [AV.cells,HB,hb],rfl⟩
 |_=>exact ⟨rfl,rfl⟩
theorem z8 (mid:Nat) (rows:List (List AV)):∀ (es:List AV),(∀ e∈es,e.aR=true)→an (es.map (yw mid rows))=(an es).map (HB mid rows)
 |[],_=>rfl
 |e :: es,h=>by
  rw [aa9,an,an,List.map_append,(z7 mid rows e (h e (by simp))).1,z8 mid rows es fun x hx=>h x (by simp [hx])]
theorem HF {gK:Nat} {e2:TypeId} {t:Tmp} (h:aY E R w β s a) (hs:zX gK e2 s t=some (true,s')):∃ R',aY E R' w β s' a∧Step R w β s.boxes R' w β s'.boxes∧s'.ro=s.ro∧aK s s':=by
 have hx:=zZ hs;unfold zX at hs;split at hs
 ·rename_i id _;split at hs
  ·rename_i es sz el mid hid _;split at hs
   ·rename_i rows XD e3 hm;injection hs with hs; injection hs with h1 h2;subst h2;have cq:mid≠id:=fun e=>by
     subst e;rw [hm] at hid;cases hid
    obtain ⟨R',r1,r2,r3⟩:=h.KK hm;have Up:nth (ak s.G mid .dead) id=some (.cg es sz el):=by rw [aJ cq]; exact hid
    refine ⟨R',⟨⟨by have:=r1.g.len; simpa [St.bq,cw] using this,fun iU go jR q1 q2=>?_,r1.g.inj,r1.g.wf,r1.g.dF,r1.g.lo⟩,r1.b,r1.t,r1.n,r1.d⟩,r2,rfl,hx⟩;rcases b8 q1 with ⟨rfl,rfl,_⟩|⟨E1,q1⟩
    ·have bl:=r1.g.obj id _ jR Up q2;cases jR with
     |none=>exact bl.elim
     |bE _=>exact bl.elim
     |aX _=>exact bl.elim
     |a8=>
      have:es=[]:=bl;subst this;exact (rfl:([]:List AV)=[])
     |tok f b c k=>
      obtain ⟨p1,p2,p3,cur,vs,g2,g3,g4,g5,g6,g7,g8,g9⟩:=bl;refine ⟨p1,by rw [aaN]; exact p2,fun x hx=>?_,cur,vs,g2,g3,g4,g5,g6,?_,g8,g9⟩
      ·obtain ⟨y,hy,rfl⟩:=aa1.1 hx;obtain ⟨q1,q2⟩:=z7 mid rows y (p3 y hy).2;rw [q1,aaN];exact ⟨(p3 y hy).1,q2⟩
      ·rw [z8 mid rows es fun x hx=>(p3 x hx).2];exact z6 r3 h1 g7
    ·exact r1.g.obj iU go jR q1 q2
   ·cases hs
  ·cases hs
 ·cases hs
theorem Fj {k sz:Nat} {t:Tmp} (h:aY E R w β s a) (hs:uT k sz s t=some (true,s')):∃ R',aY E R' w β s' a∧Step R w β s.boxes R' w β s'.boxes∧s'.ro=s.ro∧aK s s':=by
 unfold uT at hs;split at hs
 ·exact HD h hs
 ·exact HE h hs
 ·exact xB h hs
 ·exact HF h hs
 ·exact xB h hs
theorem KL {f:FuncId} {o:Oper} (h:aY E R w β s a) (hs:CD E f o s=some (true,s')):∃ R',aY E R' w β s' a∧Step R w β s.boxes R' w β s'.boxes∧s'.ro=s.ro∧aK s s':=by
 unfold CD at hs;split at hs
 ·cases hs;exact ⟨R,h,Step.refl _ _ _ _,rfl,aK.refl _⟩
 ·split at hs
  ·obtain ⟨R',r1,r2,r3⟩:=rA h hs;exact ⟨R',r1,r2,r3,lf hs⟩
  ·split at hs
   ·cases hs;exact ⟨R,h,Step.refl _ _ _ _,rfl,aK.refl _⟩
   ·split at hs
    ·exact Fj h hs
    ·split at hs
     ·cases hs;exact rB h
     ·cases hs
end
end Go.Am
