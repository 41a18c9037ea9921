/- The abstract machine: what it does is what the model does: copy; and one theorem for every operation. -/
import Derived.Test.YtegoimldbgdeiaaAmKF
import Derived.RangeFuncCalls
import Derived.RangeFuncRecord
import Derived.RangeFuncIn
set_option linter.all false
open Array renaming getD_eq_getD_getElem?→aa3, mapM_eq_mapM_toList→aa6
open Bool renaming and_eq_true→aas
open Go.Builtin renaming clear_→aaP, zeroCells→acC
open Go.Deferred renaming ofValue→acI
open Go.Fence renaming wide→aau
open Go.Instr renaming takeDeferred→acz
open Go.Oper renaming semAt_eq→aaA
open Go.Region renaming wanted→aal
open Go.Result renaming andThen_ok→aav
open Go.Sem renaming run_bind→aax, run_pure→aaK
open List renaming replicate→aay, take_length→abd, length_replicate→abQ, getElem?_eq_none→ab9
open Nat renaming eq_of_beq_eq_true→aae, le_of_ble_eq_true→aat, le_refl→aaM, ble→aa0, mul_le_mul_right→acg, le_of_eq→acv
open Option.some renaming inj→acJ
open Prod.mk renaming injEq→aaT
namespace Go.Am
open Go
section ops
variable {E:Env} {R:aj} {w:World} {β:Nat→Nat} {s:St} {a:Act} {o:Oper}
theorem bk.setRow (h:bk E R w β s a) {id b:Nat} {cs gr:List AV} {vs us:List Value} {el:TypeId} (hk:nth s.G id=some (.row cs el)) (hb:nth R.obj id=some (.cu b)) (hw:w.heap[b]?=some (.cells ⟨vs⟩ el (0,0)))
  (hr:aW R w gr us) (h1:∀ v∈us,v.oneCell'=true):bk E R (w.setRow b ⟨us⟩) β (s.cj (aE s.G id (.row gr el))) a∧Step R w β s.boxes R (w.setRow b ⟨us⟩) β s.boxes:=by
 obtain ⟨vs',b1,b2,b3,b4⟩:=h.g.obj id _ _ hk hb;have hex:=oD (R:=R) (w:=w) b4 ⟨us⟩;refine ⟨⟨⟨by simp [St.cj,h.g.len],fun nN go ro hg nD=>?_,h.g.inj,fun b' o' tj=>by have:=h.g.wf b' o' tj; simp; omega,fun g gr hg=>(h.g.fm g gr hg).mono hex,by first | exact h.g.lo | exact Nat.le_succ_of_le h.g.lo⟩,?_,h.t.mono hex,h.n,h.d⟩,?_⟩
 ·rcases fA hg with ⟨rfl,rfl,_⟩|⟨du,Kh⟩
  ·rw [hb] at nD;cases nD;exact ⟨_,setRow_heap w _ _ _ _ (0,0) hw,hr.mono hex,h1,b4⟩
  ·refine (h.g.obj nN go ro Kh nD).mono hex (fun b' mX=>setRow_other w _ b' _ (fun e=>du ?_)) (fun _ _ _ hi=>hi);subst e;exact h.g.inj id nN _ _ b' hb nD rfl mX
 ·exact h.b.bh hex (fun k gr kT=>setRow_other w _ _ _ (h.KD hb kT)) (fun _ _ _ _ hi=>hi) (fun _ _ _ hl=>hl)
 ·have zn:Own R β s.boxes b:=.inl ⟨id,_,hb,rfl⟩;exact ⟨hex,rfl,rfl,rfl,by simp,fun b' _ hn=>setRow_other w _ b' _ (fun e=>hn (e ▸ zn)),fun _ _ hb=>hb,fun b o hi _ _=>hi⟩
theorem OW (h:bk E R w β s a) {args:Array Operand} {t:TypeId} {tl:List TypeId} (ho:o.op=.call { callee:=.builtin .copy,args:=args,argTypes:=⟨t :: tl⟩ }) {d x:AV}
  (hl:qm E s.af args.toList=some [d,x]) {i:TI} (hi:E.ti t=some i) {elem esz eb:Nat} {ag:Bool} {z:Option AV} (hk:i.k=.sl elem esz ag eb z) {n:Nat} {G':List GO} (hc:H4 s esz d x=some (n,G')) :
  cn E R w β s a o ((s.cj G').put o.dst (.v (.int .i64 n))):=by
 unfold H4 at hc;cases hc
theorem K9 (h:bk E R w β s a) {args:Array Operand} {t:TypeId} (ho:o.op=.call { callee:=.builtin .clear,args:=args,argTypes:=#[t] }) (hd:o.dst=none) {id f' off sz len:Nat}
  (hl:qm E s.af args.toList=some [.eH id f' off sz len]) {i:TI} (hi:E.ti t=some i) {elem esz eb:Nat} {ag:Bool} {z:AV} (hk:i.k=.sl elem esz ag eb (some z)) {es:List AV} {el:TypeId} (hg:nth s.G id=some (.bF es sz el))
  (gX:sz=esz) (qQ:el=elem) (hz:z.cells.length=esz) (tu:z.ba=true) (tk:z.closed=true) (hfe:f'=es.length) (Im:off+len≤es.length) :
  cn E R w β s a o (s.cj (aE s.G id (.bF (eT es off (aay len z)) sz el))):=by
 have hr:=jz h hl;generalize hv:args.toList.map a.eval=vs at hr;have hx:=fW (E:=E) (w:=w) ho vs hv;cases hr with
 | @cons _ cd _ _ h0 h1=>
 cases h1;obtain ⟨jR,ud,e1,e2,e3,e4,e5,e6⟩:=dC E hi;rw [hk] at e5;obtain ⟨ie,ue,rfl,f1,f2,f3,f4,f5,f6⟩:=fP e5;obtain ⟨zc,ahx,Ki⟩:=eP f6;have kJ:∀ {c:Value} {w':World},(aaP #[t] o.type #[cd]).run E.P w=.ok c w'→(execOp a.eval o).run E.P w=.ok (.value c) w':=fun hh=>by
  rw [hx];simp only [builtin,aax,hh,aav,aaK]
 subst gX; subst qQ;by_cases Qj:len=0
 ·subst Qj;have adX:∃ base cap,cd=.slice base 0 cap:=by
   cases h0 with
   |nh=>exact ⟨_,_,rfl⟩
   |eH=>exact ⟨_,_,rfl⟩
  obtain ⟨base,cap,rfl⟩:=adX;have cq:(aaP #[t] o.type #[.slice base 0 cap]).run E.P w=.ok (.tuple #[]) w:=by
   cases base <;> simp [aaP,run_underlying e2]
  have hG:s.cj (aE s.G id (.bF (eT es off (aay 0 z)) sz el))=s:=by
   rw [List.replicate_zero,iE _ _ _ (by simpa using Im)];simp only [List.append_nil,List.length_nil,Nat.add_zero,List.take_append_drop];rw [xl hg];rfl
  rw [hG];have:=ax (s:=s) (sv:=.v (.bG [])) h (kJ cq) (Rel.bG (R:=R) (w:=w) .nil);rw [hd] at this;exact this
 ·cases h0 with
  |nh=>exact absurd rfl Qj
  | @eH _ _ _ _ _ cap b o' ro bD gJ jy=>
  obtain ⟨b',c',cur,vs,rfl,g1,g2,g3,g4,g5,g6,g7,g8,g9⟩:=uU h.g hg bD (fun k=>by subst k; exact gJ);obtain ⟨rfl,MU,OO⟩:=gJ.2 hfe;have zv:o'=off * sz:=by
   rcases OO with OO|OO
   ·exact OO
   ·omega
  subst zv;obtain ⟨z1,z2⟩:=qU (Ki R w) tu len;have hzl:zc.cells.size=sz:=by rw [← hz,(Rel.cells (Ki R w) tu).1.length]; simp
  have Cl:(acC zc.cells len).toList=(aay len zc.cells.toList).flatten:=by
   simpa [acC] using tL zc.cells len
  have UG:((aay len zc.cells.toList).flatten).length=len * sz:=by rw [← z1.length,eQ (fL hz tu tk),abQ]
  have MS:es.length * sz≤cur.toList.length:=by
   rw [show cur.toList.length=cur.size from Array.length_toList,g5];exact acg _ g3
  have hle:off * sz+len * sz≤es.length * sz:=by rw [← Nat.add_mul]; exact acg _ Im
  have ks:=run_storeCells_at (P:=E.P) b (off * sz) el (aay len zc.cells.toList).flatten 0 ⟨cur.toList⟩ w g2 (by rw [UG]; simp only [List.size_toArray]; omega) z2;simp only [Nat.add_zero] at ks;have cq:(aaP #[t] o.type #[.slice (some ⟨b,off * sz,none⟩) len cap]).run E.P w=.ok (.tuple #[]) (w.setRow b ⟨cur.toList.take (off * sz)++(aay len zc.cells.toList).flatten++cur.toList.drop (off * sz+((aay len zc.cells.toList).flatten).length)⟩):=by
   obtain ⟨m,rfl⟩:∃ m,len=m+1:=⟨len - 1,by omega⟩;simp only [aaP];simp [run_underlying e2,jS w f1 ahx,Cl,ks]
  obtain ⟨r1,r2⟩:=h.UF (off:=off) (ns:=aay len z) hg bD g2 g1 g3 g5 g7 g8 g9 (by rw [abQ]; exact Im) (fL hz tu tk).g z1 z2;exact ⟨_,.tuple #[],_,R,β,kJ cq,.inl rfl,by rw [hd]; exact r1,r2⟩
def aj.all (R:aj) (b:Nat):aj:=⟨fun b' o=>R.I b' o∨b'=b,R.obj⟩
theorem xK (R:aj) (w:World) (b:Nat):Ext R w (R.all b) w:=⟨fun _ _ h=>.inl h,fun _ _ _=>rfl,fun _ ro h=>⟨ro,h,di.refl ro⟩,gF.refl w⟩
theorem gG.freeze {G:List GO} (h:gG E R w G) {id b:Nat} {ro:RO} (bD:nth R.obj id=some ro) (hb:ro.has b) (adY:jw (R.all b) w .dead ro):gG E (R.all b) w (aE G id .dead):=by
 have e:=xK R w b;have cI:=h.cM ⟨id,ro,bD,hb⟩;refine ⟨by show R.obj.length=_; rw [kr]; exact h.len,fun nN go qM q1 q2=>?_,h.inj,fun b' o ho=>?_,fun g cs A7=>(h.fm g cs A7).mono e,h.lo⟩
 ·rcases fA q1 with ⟨rfl,rfl,_⟩|⟨du,q1⟩
  ·have:qM=ro:=acJ (q2.symm.trans bD);subst this;exact adY
  ·refine (h.obj nN go qM q1 q2).mono e (fun _ _=>rfl) (fun b' o mX ho=>?_);rcases ho with ho|ho
   ·exact ho
   ·subst ho;exact absurd (h.inj id nN _ _ b' bD q2 hb mX) du
 ·rcases ho with ho|ho
  ·exact h.wf b' o ho
  ·subst ho; exact cI
theorem tS:∀ {l:List AV} {x:AV},aN l=true→x∈l→x.closed=true
 |[],_,_,h=>by simp at h
 |a :: l,x,h,hx=>by
  simp only [aN,aas] at h;rcases List.mem_cons.1 hx with rfl|hx
  ·exact h.1
  ·exact tS h.2 hx
theorem xM:∀ l r:List AV,pS (l++r)=pS l++pS r
 |[],_=>rfl
 |a :: l,r=>by simp only [List.cons_append,pS,xM l r]
theorem xN:∀ l:List AV,(pS l).length=l.length
 |[]=>rfl
 |a :: l=>by simp only [pS,List.length_cons,xN l]
theorem CB (e:AV):e.jM.cells=pS e.cells:=by
 cases e with
 |list k sz es=>cases k <;> simp only [AV.jM,AV.cells,pS]
 |_=>simp only [AV.jM,AV.cells,pS]
theorem Iy (e:AV):e.jM.ba=e.ba:=by
 cases e with
 |list k sz es=>cases k <;> simp only [AV.jM,AV.ba]
 |_=>simp only [AV.jM,AV.ba]
theorem Aq:∀ es:List AV,aC (es.map AV.jM)=pS (aC es)
 |[]=>rfl
 |e :: es=>by simp only [List.map_cons,aC,CB,Aq es,xM]
theorem UK {wk:Bool} {es:List AV} {vs:List Value} (h:aW R w (aC es) vs):aW R w (aC (Fb wk es)) vs:=by
 cases wk with
 |false=>exact h
 |true=>
  show aW R w (aC (es.map AV.jM)) vs;rw [Aq];exact h.jM
theorem La (wk:Bool) (es:List AV):(Fb wk es).length=es.length:=by
 cases wk
 ·rfl
 ·exact List.length_map _
theorem Q6 (wk:Bool) (n:Nat) (es:List AV):Fb wk (es.take n)=(Fb wk es).take n:=by
 cases wk
 ·rfl
 ·exact List.map_take
theorem MY (wk:Bool):Fb wk []=[]:=by cases wk <;> rfl
theorem Q7 {wk:Bool} {sz:Nat} {es:List AV} (h:eW sz es) (hc:aN (Fb wk es)=true):ly sz (Fb wk es):=by
 cases wk with
 |false=>exact fun x hx=>⟨(h x hx).1,(h x hx).2,tS hc hx⟩
 |true=>
  intro x hx;refine ⟨?_,?_,tS hc hx⟩
  ·obtain ⟨y,hy,rfl⟩:=List.mem_map.1 hx;rw [CB,xN];exact (h y hy).1
  ·obtain ⟨y,hy,rfl⟩:=List.mem_map.1 hx;rw [Iy];exact (h y hy).2
theorem oI {wk:Bool} {G:List GO} (h:gG E R w G) {id f sz len:Nat} {es:List AV} {el:TypeId} (bV:nth G id=some (.bF es sz el)) (hf:f=es.length) (hl:len≤es.length) (mn:aN (Fb wk es)=true) {ro:RO} (bD:nth R.obj id=some ro) :
  ∃ R',gG E R' w (aE G id .dead)∧Ext R w R' w∧R'.obj=R.obj∧(∀ b o,R'.I b o→R.I b o∨ro.has b)∧∀ c,Rel R w (.eH id f 0 sz len) c→Rel R' w (.list .gZ sz (Fb wk (es.take len))) c:=by
 by_cases hn:ro=.bL
 ·subst hn;have he:es=[]:=h.obj id _ _ bV bD;subst he;refine ⟨R,?_,Ext.refl R w,rfl,fun _ _ hi=>.inl hi,fun c hc=>?_⟩
  ·refine ⟨by rw [kr]; exact h.len,fun nN go qM q1 q2=>?_,h.inj,h.wf,h.fm,h.lo⟩;rcases fA q1 with ⟨rfl,rfl,_⟩|⟨du,q1⟩
   ·have:qM=.bL:=acJ (q2.symm.trans bD);subst this;trivial
   ·exact h.obj nN go qM q1 q2
  ·rw [List.take_nil,MY];cases hc with
   |nh=>exact .kS
   |eH h1 h2 _=>
    rw [bD] at h1;cases h1;exact h2.elim
 ·obtain ⟨b,c',cur,vs,rfl,g0,g2,g3,g4,g5,g6,g7,g8,g9⟩:=uU h bV bD hn;have g1:ly sz (Fb wk es):=Q7 g0 mn;have e:=xK R w b;refine ⟨R.all b,h.freeze bD rfl (bE g2),e,rfl,fun b' o hi=>?_,fun c hc=>?_⟩
  ·rcases hi with hi|rfl
   ·exact .inl hi
   ·exact .inr rfl
  ·cases hc with
   |nh h1 h2=>
    rw [bD] at h1;cases h1;simp only [qp] at h2;omega
   | @eH _ _ _ _ _ cap b1 o1 _ h1 h2 h3=>
    rw [bD] at h1;cases h1;obtain ⟨rfl,k2,k3⟩:=h2.2 hf;by_cases A3:len=0
    ·subst A3;rw [List.take_zero,MY];exact Rel.list .nil rfl h3 trivial
    rw [Q6];refine Rel.list (zp len (og g1 (gz.make ((UK g7).mono e) g8 (fun j v hj=>?_) (fun j hj=>.inr rfl)))) (by rw [List.length_take,La,Nat.min_eq_left hl]) h3 trivial;have ho:o1=0:=by
     rcases k3 with k3|k3
     ·rw [k3,Nat.zero_mul]
     ·omega
    subst ho;rw [Nat.zero_add,cell_of_row w b1 j cur el (0,0) g2];rw [← g9,List.getElem?_take] at hj;split at hj
    ·rw [← Array.getElem?_toList]; exact hj
    ·cases hj
theorem Lb (s:St) (p x:SV):wo s p x=(true,x,s.G)∨∃ id1 f1 i1 t1 id f sz len es cL el,p=.v (.gp id1 f1 i1 0 1 t1)∧x=.v (.eH id f 0 sz len)∧nth s.G id=some (.bF es cL el) ∧
  wo s p x=(decide (f=es.length)&&decide (len=es.length)&&Nat.beq sz cL&&aN es,.v (.list .gZ sz es),aE s.G id .dead):=by
 unfold wo;split
 ·rename_i id1 f1 i1 t1 id f sz len;split
  ·rename_i es cL el bV;exact .inr ⟨id1,f1,i1,t1,id,f,sz,len,es,cL,el,rfl,rfl,bV,rfl⟩
  ·exact .inl rfl
 ·exact .inl rfl
theorem Iz (h:bk E R w β s a) (t:TypeId) (p x:Operand) (ho:o.op=.store t p x) (hd:o.dst=none) {s':St} (hs:nf E s t (bJ E s.af p) (bJ E s.af x)=some (true,s')) :
  cn E R w β s a o s':=by
 unfold nf at hs;split at hs
 ·rename_i c s1 ks;injection hs with hs; injection hs with hc hs;subst hs;rw [aas] at hc;obtain ⟨UL,rfl⟩:=hc;rcases Lb s (bJ E s.af p) (bJ E s.af x) with e|⟨id1,f1,i1,t1,id,f,sz,len,es,cL,el,hp,hx,bV,e⟩
  ·rw [e] at ks;exact Ih h t p x ho hd ks
  ·rw [e] at ks UL;simp only [aas,decide_eq_true_eq] at UL;obtain ⟨⟨⟨A6,hle⟩,gX⟩,mn⟩:=UL;have gX:=aae gX;subst gX;have rx:=aY h x;rw [hx] at rx;have k2:Rel R w (.eH id f 0 sz len) (a.eval x):=rx;obtain ⟨ro,bD⟩:∃ ro,nth R.obj id=some ro:=by
    have k3:=k2;generalize a.eval x=c0 at k3;cases k3 with
    |nh q _=>exact ⟨_,q⟩
    |eH q _ _=>exact ⟨_,q⟩
   obtain ⟨R',r1,r2,r3,r4,r5⟩:=oI (wk:=false) h.g bV A6 (acv hle) mn bD;have UM:∀ k cs,eJ s.boxes k=some cs→¬ ro.has (β k):=fun k cs hk e=>(h.b.box k cs hk).2.2 ⟨id,ro,bD,e⟩
   have EE:∀ b,Live R' b→Live R b:=fun b ⟨i,r,l1,l2⟩=>⟨i,r,by rw [← r3]; exact l1,l2⟩
   have h':bk E R' w β (s.cj (aE s.G id .dead)) a:=⟨r1,h.b.bh r2 (fun _ _ _=>rfl) (fun k cs o hk hi=>(r4 _ o hi).resolve_right (UM k cs hk)) (fun k cs hk hl=>EE _ hl),h.t.mono r2,h.n,h.d.mono r2⟩;have ahy:Step R w β s.boxes R' w β s.boxes:=⟨r2,rfl,rfl,rfl,aaM _,fun _ _ _=>rfl,fun b hb ho=>ho.imp (EE b) (fun q=>q),fun b o hi hb hn=>(r4 b o hi).resolve_right fun q=>hn (.inl ⟨id,ro,bD,q⟩)⟩;have r6:=r5 _ k2;rw [hle,abd] at r6;exact cn.step rfl ahy (xA h' t p x ho hd hp (x':=.v (.list .gZ sz es)) r6 (by rw [hp] at ks; exact ks))
 ·cases hs
theorem IA {f:FuncId} {s':St} (h:bk E R w β s a) (hs:an E f s o=some (true,s')):cn E R w β s a o s':=by
 unfold an at hs;split at hs
 ·rename_i x ho;split at hs
  ·rename_i y hy;cases hs;exact oa h x (.inl ho) hy
  ·rename_i k off hy;cases hs;exact oa h x (.inl ho) hy
  ·rename_i hy;cases hs;exact oa h x (.inl ho) hy
 ·rename_i x ho;split at hs
  ·rename_i y hy;cases hs;exact oa h x (.inr ho) hy
  ·rename_i k off hy;cases hs;exact oa h x (.inr ho) hy
  ·rename_i hy;cases hs;exact oa h x (.inr ho) hy
 ·rename_i c x y ho;split at hs
  ·rename_i t p q h1 h2 h3;cases hs;exact OD h c x y ho h1 h2 h3
  ·cases hs
 ·rename_i t ho;split at hs
  ·rename_i i hi;split at hs
   ·rename_i z hz;split at hs
    ·rename_i hn;exact KH h t ho hi hz hn hs
    ·cases hs
   ·cases hs
  ·cases hs
 ·rename_i t x ho;split at hs
  ·rename_i v hv;split at hs
   ·rename_i hn;exact QK h t x ho hv hn hs
   ·cases hs
  ·cases hs
 ·rename_i t parts ho;split at hs
  ·rename_i v hv;cases hs;exact KM h t parts ho hv
  ·cases hs
 ·rename_i t len parts ho;split at hs
  ·rename_i v hv;cases hs;exact A5 h t len parts ho hv
  ·cases hs
 ·rename_i t x ho;split at hs
  ·rename_i c v hv;injection hs with hs; injection hs with h1 h2;subst h1; subst h2;exact KU h t x ho hv
  ·cases hs
 ·rename_i t p x ho;split at hs
  ·rename_i c GJ hd ks;injection hs with hs; injection hs with h1 h2;subst h1; subst h2;exact Iz h t p x ho hd ks
  ·cases hs
 ·rename_i op t x y u ho;split at hs
  ·rename_i p q hx hy;split at hs
   ·rename_i c v hv;injection hs with hs; injection hs with h1 h2;subst h1; subst h2;exact KK h op t u x y ho hx hy hv
   ·rename_i hb;split at hs
    ·rename_i r hr;injection hs with hs; injection hs with h1 h2;subst h2;exact QL h op t u x y ho hx hy hb hr
    ·split at hs
     ·rename_i r hr;injection hs with hs; injection hs with h1 h2;subst h2;exact OJ h op t u x y ho hx hy hr
     ·cases hs
  ·cases hs
 ·rename_i op t x ho;split at hs
  ·rename_i b hx;cases hs;exact QM h t x ho hx
  ·rename_i k n hx;cases hs;exact QN h t x ho hx
  ·cases hs
 ·rename_i t u x ho;split at hs
  ·rename_i c v hc;injection hs with hs; injection hs with h1 h2;subst h1; subst h2;exact GQ h t u x ho hc
  ·cases hs
 ·rename_i x ho;split at hs
  ·rename_i id off hx;cases hs;exact qA h x ho hx (.inl ⟨_,_,rfl⟩)
  ·rename_i cs hx;cases hs;exact qA h x ho hx (.inr (.inr ⟨_,rfl⟩))
  ·rename_i k off hx;cases hs;exact qA h x ho hx (.inr (.inl ⟨_,_,rfl⟩))
  ·cases hs
 ·rename_i g x y ho;split at hs
  ·rename_i p q hp hq;cases hs;exact EF h g x y ho hp hq
  ·cases hs
 ·rename_i t x j ho;split at hs
  ·rename_i q hq;cases hs;exact Ce h t x j ho hq
  ·cases hs
 ·rename_i t x j ho;split at hs
  ·rename_i v hv;cases hs;exact KI h t x j ho hv
  ·cases hs
 ·rename_i t x ix ho;split at hs
  ·rename_i c q hq;injection hs with hs; injection hs with h1 h2;subst h1; subst h2;exact Cf h t x ix ho hq
  ·cases hs
 ·rename_i t x ix ho;split at hs
  ·rename_i c v hv;injection hs with hs; injection hs with h1 h2;subst h1; subst h2;exact KJ h t x ix ho hv
  ·cases hs
 ·rename_i t x lo hi mx ho;split at hs
  ·rename_i l h' hl hh;split at hs
   ·rename_i c v hv;injection hs with hs; injection hs with h1 h2;subst h1; subst h2;cases mx with
    |none=>exact KO h t x lo hi ho hl hh hv
    |some m=>
     unfold Gw at hv;split at hv
     ·rename_i hmx;cases hmx
     ·cases hv
   ·cases hs
  ·cases hs
 ·rename_i x j ho;split at hs
  ·rename_i vs hx;split at hs
   ·rename_i v hn;cases hs;exact GB h x j ho hx hn
   ·cases hs
  ·cases hs
 ·rename_i t x y ho;split at hs
  ·rename_i i k n k' m hi hx hy;split at hs
   ·rename_i elem esz ag eb z hk;split at hs
    ·rename_i dN;simp only [aas] at dN;split at hs
     ·exact GK h t x y ho hi hx hy hk (aae dN.1.1) (aat dN.1.2) dN.2 hs
     split at hs
     ·split at hs
      ·rename_i tk;injection hs with hs; injection hs with h1 h2;subst h2;exact A8 h t x y ho hi hx hy hk (aae dN.1.1) (aat dN.1.2) dN.2 tk (of_decide_eq_true h1)
      ·cases hs
     ·injection hs with hs; injection hs with h1 h2;subst h2;exact Cm h t x y ho hi hx hy hk (aae dN.1.1) (aat dN.1.2) dN.2 (of_decide_eq_true h1)
    ·cases hs
   ·cases hs
  ·cases hs
 ·rename_i t m k ok ho;split at hs
  ·rename_i v b hv;cases hs;exact Is h t m k ok ho hv
  ·cases hs
 ·rename_i t m k x ho;split at hs
  ·rename_i GJ hd hv;cases hs;exact tR h t m k x (.inl ho) hd hv
  ·cases hs
 ·rename_i t m k x ho;split at hs
  ·rename_i GJ hd hv;cases hs;exact tR h t m k x (.inr ho) hd hv
  ·cases hs
 ·rename_i x ho;split at hs
  ·rename_i c v hv;injection hs with hs; injection hs with h1 h2;subst h1; subst h2;exact K6 h x ho hv
  ·cases hs
 ·rename_i t m k ho;split at hs
  ·rename_i c v GJ hv;injection hs with hs; injection hs with h1 h2;subst h1; subst h2;exact EH h t m k ho hv
  ·cases hs
 ·rename_i t m st x ho;split at hs
  ·rename_i c GJ hd hv;injection hs with hs; injection hs with h1 h2;subst h1; subst h2;exact Be h t m st x ho hd hv
  ·cases hs
 ·rename_i t x ho;split at hs
  ·rename_i i l hi hx;split at hs
   ·rename_i hk;cases hs;exact K1 h t x ho hi hk hx
   ·cases hs
  ·rename_i i id hi hx;split at hs
   ·rename_i hk hg;cases hs;exact Iu h t x ho hi hk hx hg
   ·cases hs
  ·cases hs
 ·rename_i x ho;split at hs
  ·rename_i GJ hv;cases hs;exact OU h x ho hv
  ·cases hs
 ·rename_i t ho;cases hs;exact GG h t ho
 ·rename_i b args tys ho;split at hs
  ·rename_i r hf;cases hs;exact K7 h hf
  ·split at hs
   ·rename_i l hl;have OV:tys=⟨tys.toList⟩:=rfl;cases b with
    |len=>
     exact QQ h (tys:=tys.toList) (by rw [ho]) hl hs
    |append=>
     unfold dm at hs;split at hs <;> first | (rename_i hb; cases hb; done) | skip
     ·rename_i x k sz ys;split at hs
      ·rename_i t u GS;split at hs
       ·rename_i i hi;split at hs
        ·rename_i elem esz ag eb z hk;split at hs
         ·rename_i dN;simp only [aas,Bool.or_eq_true] at dN;obtain ⟨⟨⟨⟨⟨c1,c2⟩,c3⟩,c4⟩,c5⟩,c6⟩:=dN;split at hs
          ·rename_i c v G' ha;injection hs with hs; injection hs with h1 h2;subst h1; subst h2;have htu:=aae c2;subst htu;have GU:tys=#[t,t]:=by rw [OV,GS]
           rw [GU] at ho;refine Il h ho hl hi hk ?_ (aat c3) (aat c4) (aae c5) c6 ha;rcases c1 with c1|c1
           ·exact .inr (aae c1)
           ·exact .inl (by simpa using c1)
          ·cases hs
         ·cases hs
        ·cases hs
       ·cases hs
      ·cases hs
     ·rename_i x bs;split at hs
      ·rename_i t u GS;split at hs
       ·rename_i i j hi hj;split at hs
        ·rename_i elem esz ag eb z hk hjk;split at hs
         ·rename_i dN;simp only [aas] at dN;obtain ⟨⟨⟨c1,c2⟩,c3⟩,c4⟩:=dN;split at hs
          ·rename_i c v G' ha;injection hs with hs; injection hs with h1 h2;subst h1; subst h2;have c1:=aae c1;subst c1;have GU:tys=#[t,u]:=by rw [OV,GS]
           rw [GU] at ho;exact Bd h ho hl hi hj hk hjk (aat c2) (aae c3) c4 ha
          ·cases hs
         ·cases hs
        ·cases hs
       ·cases hs
      ·cases hs
     ·rename_i x id f sz len;split at hs
      ·rename_i ys cL el t u bV GS;split at hs
       ·rename_i i hi;split at hs
        ·rename_i elem esz ag eb z hk;split at hs
         ·rename_i dN;simp only [aas] at dN;obtain ⟨⟨⟨⟨⟨⟨⟨⟨⟨c1,c2⟩,c3⟩,c4⟩,c5⟩,c6⟩,c7⟩,c8⟩,c9⟩,c10⟩:=dN;split at hs
          ·rename_i c v G' ha;injection hs with hs; injection hs with h1 h2;subst h1; subst h2;have htu:=aae c6;subst htu;have c1:=aae c1;subst c1;have GU:tys=#[t,t]:=by rw [OV,GS]
           rw [GU] at ho;exact Bc h ho hl bV (aae c3) (aae c4) c5 hi hk (aae c2) (aat c8) (aae c9) c10 ha
          ·cases hs
         ·cases hs
        ·cases hs
       ·cases hs
      ·cases hs
     ·cases hs
    |copy=>
     unfold dm at hs;split at hs <;> first | (rename_i hb; cases hb; done) | skip
     ·rename_i d x;split at hs
      ·rename_i t tl GS;split at hs
       ·rename_i i hi;split at hs
        ·rename_i elem esz ag eb z hk;split at hs
         ·rename_i n G' hc;injection hs with hs; injection hs with h1 h2;subst h2;have GU:tys=⟨t :: tl⟩:=by rw [OV,GS]
          rw [GU] at ho;exact OW h ho hl hi hk hc
         ·cases hs
        ·cases hs
       ·cases hs
      ·cases hs
     ·cases hs
    |clear=>
     unfold dm at hs;split at hs <;> first | (rename_i hb; cases hb; done) | skip
     ·split at hs
      ·rename_i t id f' off sz len hd GS;split at hs
       ·rename_i i es cL el hi hg;split at hs
        ·rename_i elem esz ag eb z hk;split at hs
         ·rename_i dN;simp only [aas] at dN;obtain ⟨⟨⟨⟨⟨c1,c2⟩,c3⟩,c4⟩,c5⟩,c6⟩:=dN;have c1:=aae c1;have c2:=aae c2;have c3:=aae c3;have c4:=aae c4;injection hs with hs; injection hs with h1 h2;subst h2;rw [aas,decide_eq_true_eq,decide_eq_true_eq] at h1;have GU:tys=#[t]:=by rw [OV,GS]
          rw [GU] at ho;subst c2;exact K9 h ho hd hl hi hk hg c1 c3 c4 c5 c6 h1.1 h1.2
         ·cases hs
        ·cases hs
       ·cases hs
      ·cases hs
     ·cases hs
    |max=>
     unfold dm at hs;split at hs <;> first | (rename_i hb; cases hb; done) | skip
     ·rename_i x l';split at hs
      ·rename_i v hm;cases hs;exact QR h ho hl hm
      ·cases hs
     ·cases hs
    |min=>
     unfold dm at hs;split at hs <;> first | (rename_i hb; cases hb; done) | skip
     ·rename_i x l';split at hs
      ·rename_i v hm;cases hs;exact QS h ho hl hm
      ·cases hs
     ·cases hs
    |_=>
     unfold dm at hs;split at hs <;> first | (rename_i hb; cases hb; done) | (cases hs; done)
   ·cases hs
 ·cases hs
theorem xO {wk:Bool}:∀ {cs gr:List AV} {G G':List GO} {vs:List Value} {R:aj},gG E R w G→aW R w cs vs→qP wk cs G=(true,gr,G') →
  ∃ R',gG E R' w G'∧aW R' w gr vs∧Ext R w R' w∧R'.obj=R.obj∧∀ b o,R'.I b o→R.I b o∨Live R b
 |[],gr,G,G',vs,R,hg,hr,h=>by
  simp only [qP,aaT,true_and] at h;obtain ⟨rfl,rfl⟩:=h;exact ⟨R,hg,hr,Ext.refl R w,rfl,fun _ _ h=>.inl h⟩
 |x :: l,gr,G,G',vs,R,hg,hr,h=>by
  cases hr with
  |cons h0 hr=>
  unfold qP at h;split at h
  ·rename_i mm;cases mm
  ·rename_i id f sz len l1 mm;obtain ⟨rfl,rfl⟩:=List.cons.inj mm;split at h
   ·rename_i es cL el bV;generalize h2:qP wk l _=q0 at h;obtain ⟨c',q⟩:=q0;obtain ⟨rs2,G2⟩:=q;simp only [aaT,aas,decide_eq_true_eq] at h;obtain ⟨⟨⟨⟨⟨hf,hlen⟩,gX⟩,mn⟩,rfl⟩,rfl,rfl⟩:=h;have gX:=aae gX;subst gX;obtain ⟨ro,bD⟩:∃ ro,nth R.obj id=some ro:=by
     cases h0 with
     |nh q _=>exact ⟨_,q⟩
     |eH q _ _=>exact ⟨_,q⟩
    obtain ⟨R1,r1,r2,r3,r4,r5⟩:=oI (wk:=wk) hg bV hf (acv hlen) mn bD;have r6:=r5 _ h0;rw [hlen,abd] at r6;obtain ⟨R2,b1,b2,b3,b4,b5⟩:=xO r1 (hr.mono r2) h2;refine ⟨R2,b1,.cons (r6.mono b3) b2,r2.trans b3,b4.trans r3,fun b o ho=>?_⟩;rcases b5 b o ho with ho|ho
    ·exact (r4 b o ho).imp_right fun hb=>⟨id,ro,bD,hb⟩
    ·obtain ⟨i,r,q1,q2⟩:=ho;rw [r3] at q1;exact .inr ⟨i,r,q1,q2⟩
   ·generalize h2:qP wk l _=q0 at h;obtain ⟨c',q⟩:=q0;simp only [aaT] at h;cases h.1
  ·rename_i a l1 G1 du mm;obtain ⟨rfl,rfl⟩:=List.cons.inj mm;generalize h2:qP wk l _=q0 at h;obtain ⟨c',rs2,G2⟩:=q0;simp only [aaT] at h;obtain ⟨rfl,rfl,rfl⟩:=h;obtain ⟨R2,b1,b2,b3,b4,b5⟩:=xO hg hr h2;exact ⟨R2,b1,.cons (h0.mono b3) b2,b3,b4,b5⟩
theorem tT {cut wk:Bool} {t:Tmp} {s':St} (h:bk E R w β s a) (hs:rU cut wk s t=some (true,s')):∃ R',bk E R' w β s' a∧Step R w β s.boxes R' w β s'.boxes∧s'.ro=s.ro:=by
 unfold rU at hs;split at hs
 ·rename_i id f off sz len ht;split at hs
  ·rename_i es cL el bV;split at hs
   ·rename_i dN;rw [aas] at dN;have q1:=aae dN.1;have q2:=aae dN.2;subst q1; subst q2;injection hs with hs; injection hs with h1 h2;rw [aas,aas,decide_eq_true_eq] at h1;obtain ⟨⟨A6,Ia⟩,mn⟩:=h1;have hle:len≤es.length:=by
     cases cut with
     |true=>exact of_decide_eq_true Ia
     |false=>exact acv (of_decide_eq_true Ia)
    have HR:Fb wk (bif cut then es.take len else es)=Fb wk (es.take len):=by
     congr 1;cases cut with
     |true=>rfl
     |false=>
      have:len=es.length:=of_decide_eq_true Ia;rw [this,abd];rfl
    rw [HR] at h2;subst h2;obtain ⟨c,k1,k2⟩:=h.t t (by rw [ht]; simp);rw [ht] at k2;obtain ⟨ro,bD⟩:∃ ro,nth R.obj id=some ro:=by
     have T8:Rel R w (.eH id f 0 sz len) c:=k2;cases T8 with
     |nh q _=>exact ⟨_,q⟩
     |eH q _ _=>exact ⟨_,q⟩
    obtain ⟨R',r1,r2,r3,r4,r5⟩:=oI h.g bV A6 hle mn bD;have UM:∀ k cs,eJ s.boxes k=some cs→¬ ro.has (β k):=fun k cs hk e=>(h.b.box k cs hk).2.2 ⟨id,ro,bD,e⟩
    refine ⟨R',⟨r1,?_,?_,h.n,h.d.mono r2⟩,⟨r2,rfl,rfl,rfl,aaM _,fun _ _ _=>rfl,fun b hb ho=>?_,fun b o hi hb hn=>?_⟩,rfl⟩
    ·exact h.b.bh r2 (fun _ _ _=>rfl) (fun k cs o hk hi=>(r4 _ o hi).resolve_right (UM k cs hk)) (fun k cs hk hl=>by
      obtain ⟨i,r,l1,l2⟩:=hl;rw [r3] at l1;exact ⟨i,r,l1,l2⟩)
    ·intro i hi;by_cases e:t=i
     ·subst e;rw [aG];exact ⟨c,k1,r5 c k2⟩
     ·rw [aX e] at hi ⊢;obtain ⟨c',l1,l2⟩:=h.t i hi;exact ⟨c',l1,l2.mono r2⟩
    ·rcases ho with ⟨i,r,l1,l2⟩|ho
     ·rw [r3] at l1;exact .inl ⟨i,r,l1,l2⟩
     ·exact .inr ho
    ·rcases r4 b o hi with hi|hi
     ·exact hi
     ·exact absurd (.inl ⟨id,ro,bD,hi⟩) hn
   ·cases hs
  ·cases hs
 ·-- an object's cells never change again
  rename_i id ht;split at hs
  ·rename_i cs el bV;injection hs with hs; injection hs with h1 h2;subst h2;obtain ⟨c,k1,k2⟩:=h.t t (by rw [ht]; simp);rw [ht] at k2;have T8:Rel R w (.ptr id 0) c:=k2;cases T8 with
   | @ptr _ _ b bD=>
   obtain ⟨vs,b1,b2,b3,b4⟩:=h.g.obj id _ _ bV bD;have r2:=xK R w b;have r1:=h.g.freeze bD rfl (show jw (R.all b) w .dead (.cu b) from bE b1);have UM:∀ k cs,eJ s.boxes k=some cs→β k≠b:=fun k cs hk e=>(h.b.box k cs hk).2.2 ⟨id,_,bD,by rw [e]; rfl⟩
   refine ⟨R.all b,⟨r1,?_,?_,h.n,h.d.mono r2⟩,⟨r2,rfl,rfl,rfl,aaM _,fun _ _ _=>rfl,fun _ _ ho=>ho,fun b' o hi hb hn=>?_⟩,rfl⟩
   ·exact h.b.bh r2 (fun _ _ _=>rfl) (fun k cs o hk hi=>hi.resolve_right (UM k cs hk)) (fun _ _ _ hl=>hl)
   ·intro i hi;by_cases e:t=i
    ·subst e;rw [aG];refine ⟨_,k1,Rel.ep (gz.make (b2.mono r2) b3 (fun j v hv=>?_) (fun j _=>.inr rfl))⟩;rw [qR b1,Nat.zero_add];exact hv
    ·rw [aX e] at hi ⊢;obtain ⟨c',l1,l2⟩:=h.t i hi;exact ⟨c',l1,l2.mono r2⟩
   ·rcases hi with hi|rfl
    ·exact hi
    ·exact absurd (.inl ⟨id,_,bD,rfl⟩) hn
  ·cases hs
 ·-- the parts of a value
  rename_i cs ht;cases h2:qP wk cs s.G with
  |mk c' q=>
  obtain ⟨gr,G'⟩:=q;rw [h2] at hs;injection hs with hs; injection hs with h3 hs;subst h3;subst hs;obtain ⟨c,k1,k2⟩:=h.t t (by rw [ht]; simp);rw [ht] at k2;have T8:Rel R w (.agg cs) c:=k2;cases T8 with
  | @agg _ vs k3 k4=>
  obtain ⟨R',r1,r2,r3,r4,r5⟩:=xO h.g k3 h2;have live:∀ b,Live R' b→Live R b:=fun b ⟨i,r,q1,q2⟩=>⟨i,r,by rw [← r4]; exact q1,q2⟩
  refine ⟨R',⟨r1,?_,?_,h.n,h.d.mono r3⟩,⟨r3,rfl,rfl,rfl,aaM _,fun _ _ _=>rfl,fun b hb ho=>?_,fun b o hi hb hn=>?_⟩,rfl⟩
  ·exact h.b.bh r3 (fun _ _ _=>rfl) (fun k cs o hk hi=>(r5 _ o hi).resolve_right (h.b.box k cs hk).2.2) (fun k cs hk hl=>live _ hl)
  ·intro i hi;by_cases e:t=i
   ·subst e;rw [aG];exact ⟨_,k1,Rel.agg r2 k4⟩
   ·rw [aX e] at hi ⊢;obtain ⟨c',l1,l2⟩:=h.t i hi;exact ⟨c',l1,l2.mono r3⟩
  ·rcases ho with ho|ho
   ·exact .inl (live b ho)
   ·exact .inr ho
  ·rcases r5 b o hi with hi|hi
   ·exact hi
   ·exact absurd (.inl hi) hn
 ·cases hs
theorem ku {cut wk:Bool}:∀ {l:List Operand} {R:aj} {s s':St},bk E R w β s a→j8 cut wk l s=(true,s')→∃ R',bk E R' w β s' a∧Step R w β s.boxes R' w β s'.boxes∧s'.ro=s.ro
 |[],R,s,s',h,hs=>by
  simp only [j8] at hs;cases hs;exact ⟨R,h,Step.refl _ _ _ _,rfl⟩
 |.tmp t :: l,R,s,s',h,hs=>by
  unfold j8 at hs;split at hs
  ·rename_i c s1 h1;cases h2:j8 cut wk l s1 with
   |mk c' s2=>
   rw [h2] at hs;simp only [aaT,aas] at hs;obtain ⟨⟨rfl,rfl⟩,rfl⟩:=hs;obtain ⟨R1,k1,k2,k3⟩:=tT h h1;obtain ⟨R2,l1,l2,l3⟩:=ku k1 h2;exact ⟨R2,l1,k2.trans l2,l3.trans k3⟩
  ·exact ku h hs
 |.const _ :: l,R,s,s',h,hs=>ku (l:=l) h hs
 |.global _ :: l,R,s,s',h,hs=>ku (l:=l) h hs
 |.func _ :: l,R,s,s',h,hs=>ku (l:=l) h hs
theorem Q8 {f:FuncId} {s':St} (h:bk E R w β s a) (hs:Ox E f s o=some (true,s')):∃ R',bk E R' w β s' a∧Step R w β s.boxes R' w β s'.boxes∧s'.ro=s.ro:=by
 unfold Ox at hs;split at hs
 ·split at hs
  ·injection hs with hs;exact ku h hs
  ·cases hs
 ·cases hs
end ops
end Go.Am
namespace Go.Am
open Go
structure aP (s s':St):Prop where
 sl:∃ pre,s'.af=pre++s.af
 bx:∃ pre,s'.boxes=pre++s.boxes
 n:s'.n=s.n
theorem aP.refl (s:St):aP s s:=⟨⟨[],rfl⟩,⟨[],rfl⟩,rfl⟩
theorem aP.trans {a b c:St} (h:aP a b) (k:aP b c):aP a c:=by
 obtain ⟨p,hp⟩:=h.sl; obtain ⟨q,hq⟩:=k.sl; obtain ⟨p',hp'⟩:=h.bx; obtain ⟨q',hq'⟩:=k.bx;exact ⟨⟨q++p,by rw [hq,hp,List.append_assoc]⟩,⟨q'++p',by rw [hq',hp',List.append_assoc]⟩,k.n.trans h.n⟩
section
variable {E:Env} {R R':aj} {w w':World} {β β':Nat→Nat} {s s':St} {a a':Act}
def jf (R:aj):aj:=⟨R.I,R.obj++[.bL]⟩
theorem oh:Ext R w (jf R) w:=⟨fun _ _ h=>h,fun _ _ _=>rfl,fun _ r h=>⟨r,bM h,di.refl r⟩,gF.refl w⟩
theorem wE {b:Nat} (h:Live (jf R) b):Live R b:=by
 obtain ⟨id,r,h1,h2⟩:=h;rcases ak h1 with h1|⟨_,rfl⟩
 ·exact ⟨id,r,h1,h2⟩
 ·simp [RO.has] at h2
def Y5 (n sz:Nat):AV:=bif aa0 65536 sz then .eH n 0 0 (sz - 65536) 0 else .list (.own n) sz []
def Qm (sz:Nat) (e:TypeId):GO:=bif aa0 65536 sz then .bF [] (sz - 65536) e else .tok 0 sz e
theorem UN (sz:Nat) (e:TypeId):jw R w (Qm sz e) .bL:=by
 unfold Qm;cases aa0 65536 sz
 ·exact rfl
 ·exact rfl
theorem MZ {n sz:Nat} (hn:nth R.obj n=some .bL):Rel R w (Y5 n sz) (.slice none 0 0):=by
 unfold Y5;cases aa0 65536 sz
 ·exact .nP hn trivial
 ·exact .nh hn trivial
theorem gG.Fq {G:List GO} (h:gG E R w G) (sz:Nat) (e:TypeId):gG E (jf R) w (G++[Qm sz e]):=by
 refine ⟨by simp [jf,h.len],fun id g r h1 h2=>?_,fun i j ri rj b h1 h2 b1 b2=>?_,h.wf,fun g cs hg=>(h.fm g cs hg).mono oh,h.lo⟩
 ·rcases ak h2 with h2|⟨h3,rfl⟩
  ·rcases ak h1 with h1|⟨h4,_⟩
   ·exact (h.obj id g r h1 h2).mono oh (fun _ _=>rfl) (fun _ _ _ h=>h)
   ·have cI:=bA h2;rw [h.len] at cI;omega
  ·rcases ak h1 with h1|⟨h4,rfl⟩
   ·have:=bA h1;rw [h3,h.len] at this;omega
   ·exact UN sz e
 ·rcases ak h1 with g1|⟨_,e1⟩
  ·rcases ak h2 with g2|⟨_,e2⟩
   ·exact h.inj i j ri rj b g1 g2 b1 b2
   ·rw [e2] at b2; simp [RO.has] at b2
  ·rw [e1] at b1; simp [RO.has] at b1
theorem bk.Fq (h:bk E R w β s a) (sz:Nat) (e:TypeId):bk E (jf R) w β (s.fq (Qm sz e)) a∧Step R w β s.boxes (jf R) w β s.boxes:=by
 refine ⟨⟨h.g.Fq sz e,h.b.bh oh (fun _ _ _=>rfl) (fun _ _ _ _ h=>h) (fun _ _ _ hl=>wE hl),h.t.mono oh,h.n,h.d.mono (oh (w:=w))⟩,?_⟩;refine ⟨oh,rfl,rfl,rfl,aaM _,fun _ _ _=>rfl,fun b _ ho=>?_,fun _ _ h _ _=>h⟩;rcases ho with ho|ho
 ·exact .inl (wE ho)
 ·exact .inr ho
inductive Loc
 |slot (t:Tmp)
 |box (k i:Nat)
 |row (id i:Nat)
def xP (s:St) (l:Loc) (sz:Nat) (e:TypeId):Option St:=
 let v:AV:=Y5 s.G.length sz
 match aa0 196608 sz with
 |true=>some (s.fq (.bt [] (sz - 196608) e))
 |false=>match l with
 |.slot t=>match lk s.af t with
  |.v (.list .nil _ [])=>some ⟨.put t (.v v) :: s.af,s.boxes,s.G++[Qm sz e],s.marks,s.ro,s.n⟩
  |_=>none
 |.box k i=>match eJ s.boxes k with
  |some cs=>match nth cs i with
   |some (.list .nil _ [])=>some ⟨s.af,(k,aE cs i v) :: s.boxes,s.G++[Qm sz e],s.marks,s.ro,s.n⟩
   |_=>none
  |none=>none
 |.row id i=>match nth s.G id with
  |some (.row cs el)=>match nth cs i with
   |some (.list .nil _ [])=>some ⟨s.af,s.boxes,aE s.G id (.row (aE cs i v) el)++[Qm sz e],s.marks,s.ro,s.n⟩
   |_=>none
  |_=>none
def zA (s:St) (l:Loc) (sz:Nat) (e:TypeId):Option St:=match aa0 2097152 sz with
 |true=>some (s.fq (Qm (65536+(sz - 2097152)) e))
 |false=>xP s l sz e
def jg:List (Loc × Nat × TypeId)→St→Option St
 |[],s=>some s
 |(l,sz,e) :: r,s=>match zA s l sz e with
  |some s'=>jg r s'
  |none=>none
theorem aW.aE {l:List AV} {cs:List Value} (h:aW R w l cs) {i:Nat} {x y:AV} (hx:nth l i=some x) (hw:∀ c,Rel R w x c→Rel R w y c):aW R w (Am.aE l i y) cs:=by
 induction l generalizing cs i with
 |nil=>simp [nth] at hx
 |cons a l ih=>
  cases h with
  |cons h t=>
   cases i with
   |zero=>simp only [nth] at hx; cases hx; exact .cons (hw _ h) t
   |succ i=>exact .cons h (ih t hx)
theorem bk.Y6 (h:bk E R w β s a) (sz:Nat) (e:TypeId):bk E (R.add (.bt [])) w β (s.fq (.bt [] sz e)) a∧Step R w β s.boxes (R.add (.bt [])) w β s.boxes:=by
 have no:∀ b,¬ RO.has (.bt []) b:=fun b ⟨j,f,c,hj⟩=>by simp [nth] at hj
 have ext:Ext R w (R.add (.bt [])) w:=⟨fun _ _ h=>h,fun _ _ _=>rfl,fun _ r h=>⟨r,bM h,di.refl r⟩,gF.refl w⟩;have live:∀ b,Live (R.add (.bt [])) b→Live R b:=fun b ⟨id,r,h1,h2⟩=>by
  rcases ak h1 with h1|⟨_,rfl⟩
  ·exact ⟨id,r,h1,h2⟩
  ·exact absurd h2 (no b)
 refine ⟨⟨⟨by simp [St.fq,aj.add,h.g.len],fun id g r h1 h2=>?_,fun i j ri rj b h1 h2 b1 b2=>?_,h.g.wf,fun g cs hg=>(h.g.fm g cs hg).mono ext,h.g.lo⟩,h.b.bh ext (fun _ _ _=>rfl) (fun _ _ _ _ h=>h) (fun _ _ _ hl=>live _ hl),h.t.mono ext,h.n,h.d.mono ext⟩,?_⟩
 ·rcases ak h2 with h2|⟨h3,rfl⟩
  ·rcases ak h1 with h1|⟨h4,_⟩
   ·exact (h.g.obj id g r h1 h2).mono ext (fun _ _=>rfl) (fun _ _ _ h=>h)
   ·have cI:=bA h2;rw [h.g.len] at cI;omega
  ·rcases ak h1 with h1|⟨h4,rfl⟩
   ·have:=bA h1;rw [h3,h.g.len] at this;omega
   ·exact ⟨rfl,fun i j f b c f' c' hi=>by simp [nth] at hi,fun j f t hj=>by simp [nth] at hj⟩
 ·rcases ak h1 with g1|⟨_,e1⟩
  ·rcases ak h2 with g2|⟨_,e2⟩
   ·exact h.g.inj i j ri rj b g1 g2 b1 b2
   ·rw [e2] at b2; exact absurd b2 (no b)
  ·rw [e1] at b1; exact absurd b1 (no b)
 ·refine ⟨ext,rfl,rfl,rfl,aaM _,fun _ _ _=>rfl,fun b _ ho=>?_,fun _ _ h _ _=>h⟩;rcases ho with ho|ho
  ·exact .inl (live b ho)
  ·exact .inr ho
theorem IB {l:Loc} {sz:Nat} {e:TypeId} (h:bk E R w β s a) (Lc:aa0 196608 sz=false) (hs:xP s l sz e=some s'):bk E (jf R) w β s' a∧Step R w β s.boxes (jf R) w β s'.boxes∧s'.ro=s.ro∧aP s s':=by
 obtain ⟨h1,h2⟩:=h.Fq sz e;have hn:nth (jf R).obj s.G.length=some .bL:=by
  rw [← h.g.len]; exact dH _ _
 have hw:∀ (cL:Nat) (c:Value),Rel (jf R) w (.list .nil cL []) c→Rel (jf R) w (Y5 s.G.length sz) c:=fun cL c hc=>by
  cases hc with
  |lF=>exact MZ hn
  |list _ _ _ hk=>exact hk.elim
 unfold xP at hs;rw [Lc] at hs;cases l with
 |slot t=>
  simp only at hs;split at hs
  ·rename_i cL ht;cases hs;refine ⟨⟨h1.g,h1.b,fun i hi=>?_,h1.n,h1.d⟩,h2,rfl,⟨⟨[_],rfl⟩,⟨[],rfl⟩,rfl⟩⟩;by_cases e:t=i
   ·subst e;rw [aG];obtain ⟨c,k1,k2⟩:=h1.t t (by show lk s.af t≠_; rw [ht]; simp);have T8:tD (jf R) w β (lk s.af t) c:=k2;rw [ht] at T8;exact ⟨c,k1,hw _ _ T8⟩
   ·rw [aX e] at hi ⊢;exact h1.t i hi
  ·cases hs
 |box k i=>
  simp only at hs;split at hs
  ·rename_i cs hk;split at hs
   ·rename_i cL hi;cases hs;have hb:∀ k' gr,eJ ((k,aE cs i (Y5 s.G.length sz)) :: s.boxes) k'=some gr→∃ cs0,eJ s.boxes k'=some cs0:=fun k' gr kT=>by
     rcases gH kT with ⟨rfl,_⟩|⟨_,kT⟩
     ·exact ⟨cs,hk⟩
     ·exact ⟨gr,kT⟩
    refine ⟨⟨h1.g,⟨fun k' gr kT=>?_,fun k1 k2 c1 c2 e1 e2 he=>?_⟩,h1.t,h1.n,h1.d⟩,?_,rfl,⟨⟨[],rfl⟩,⟨[_],rfl⟩,rfl⟩⟩
    ·rcases gH kT with ⟨rfl,rfl⟩|⟨_,kT⟩
     ·obtain ⟨⟨vs,el,q1,q2,q3⟩,q4⟩:=h1.b.box k cs hk;exact ⟨⟨vs,el,q1,q2.aE hi (hw _),q3⟩,q4⟩
     ·exact h1.b.box k' gr kT
    ·obtain ⟨d1,hd1⟩:=hb k1 c1 e1;obtain ⟨d2,Y7⟩:=hb k2 c2 e2;exact h.b.inj k1 k2 d1 d2 hd1 Y7 he
    ·refine ⟨h2.ext,rfl,rfl,rfl,aaM _,fun _ _ _=>rfl,fun b mX ho=>?_,fun _ _ h _ _=>h⟩;rcases ho with ho|⟨k',gr,kT,rfl⟩
     ·exact .inl (wE ho)
     ·obtain ⟨d1,hd1⟩:=hb k' gr kT;exact .inr ⟨k',d1,hd1,rfl⟩
   ·cases hs
  ·cases hs
 |row id i=>
  simp only at hs;split at hs
  ·rename_i cs el bV;split at hs
   ·rename_i cL hi;cases hs;refine ⟨⟨⟨by have:=h1.g.len; simpa [St.fq] using this,fun nN go ro q1 q2=>?_,h1.g.inj,h1.g.wf,h1.g.fm,h1.g.lo⟩,h1.b,h1.t,h1.n,h1.d⟩,h2,rfl,⟨⟨[],rfl⟩,⟨[],rfl⟩,rfl⟩⟩;rcases ak q1 with q1|⟨q3,rfl⟩
    ·rcases fA q1 with ⟨rfl,rfl,_⟩|⟨du,q1⟩
     ·have cY:=h1.g.obj id (.row cs el) ro (bM bV) q2;cases ro with
      |cu b=>
       obtain ⟨vs,k1,k2,k3,k4⟩:=cY;exact ⟨vs,k1,k2.aE hi (hw _),k3,k4⟩
      |none=>exact cY.elim
      |bL=>exact cY.elim
      |tok _ _ _=>exact cY.elim
      |bt _=>exact cY.elim
     ·exact h1.g.obj nN go ro (bM q1) q2
    ·refine h1.g.obj nN _ ro ?_ q2;rw [kr] at q3;rw [q3];exact dH _ _
   ·cases hs
  ·cases hs
theorem CC {l:Loc} {sz:Nat} {e:TypeId} (h:bk E R w β s a) (hs:zA s l sz e=some s'):∃ R',bk E R' w β s' a∧Step R w β s.boxes R' w β s'.boxes∧s'.ro=s.ro∧aP s s':=by
 unfold zA at hs;split at hs
 ·cases hs;obtain ⟨h1,h2⟩:=h.Fq (65536+(sz - 2097152)) e;exact ⟨_,h1,h2,rfl,⟨⟨[],rfl⟩,⟨[],rfl⟩,rfl⟩⟩
 cases Lc:aa0 196608 sz with
 |true=>
  unfold xP at hs;rw [Lc] at hs;cases hs;obtain ⟨h1,h2⟩:=h.Y6 (sz - 196608) e;exact ⟨_,h1,h2,rfl,⟨⟨[],rfl⟩,⟨[],rfl⟩,rfl⟩⟩
 |false=>exact ⟨_,IB h Lc hs⟩
theorem lM:∀ {l:List (Loc × Nat × TypeId)} {R:aj} {s s':St},bk E R w β s a→jg l s=some s'→∃ R',bk E R' w β s' a∧Step R w β s.boxes R' w β s'.boxes∧s'.ro=s.ro∧aP s s'
 |[],R,s,s',h,hs=>by
  simp only [jg] at hs;cases hs;exact ⟨R,h,Step.refl _ _ _ _,rfl,aP.refl _⟩
 |(l,sz,e) :: r,R,s,s',h,hs=>by
  unfold jg at hs;split at hs
  ·rename_i s1 h1;obtain ⟨R0,g1,g2,g3,g4⟩:=CC h h1;obtain ⟨R',k1,k2,k3,k4⟩:=lM g1 hs;exact ⟨R',k1,g2.trans k2,k3.trans g3,g4.trans k4⟩
  ·cases hs
def Y8 (s:St) (d:Tmp):List (Option Nat × Nat × TypeId)→Option (List (Loc × Nat × TypeId))
 |[]=>some []
 |(none,sz,e) :: l=>match Y8 s d l with
  |some r=>some ((.slot d,65536+sz,e) :: r)
  |none=>none
 |(some c,sz,e) :: l=>match Y8 s d l,lk s.af d with
  |some r,.lp k off=>some ((.box k (off+c),65536+sz,e) :: r)
  |some r,.v (.ptr id off)=>some ((.row id (off+c),65536+sz,e) :: r)
  |some r,.v (.oA id off _ _ _)=>some ((.row id (off+c),65536+sz,e) :: r)
  |_,_=>none
def mq:List (Loc × Nat × TypeId)→St→St
 |[],s=>s
 |(l,sz,e) :: r,s=>match zA s l sz e with
  |some s'=>mq r s'
  |none=>mq r s
theorem tU:∀ {l:List (Loc × Nat × TypeId)} {R:aj} {s:St},bk E R w β s a→∃ R',bk E R' w β (mq l s) a∧Step R w β s.boxes R' w β (mq l s).boxes∧(mq l s).ro=s.ro∧aP s (mq l s)
 |[],R,s,h=>⟨R,h,Step.refl _ _ _ _,rfl,aP.refl _⟩
 |(l,sz,e) :: r,R,s,h=>by
  unfold mq;split
  ·rename_i s1 h1;obtain ⟨R0,g1,g2,g3,g4⟩:=CC h h1;obtain ⟨R',k1,k2,k3,k4⟩:=tU (l:=r) g1;exact ⟨R',k1,g2.trans k2,k3.trans g3,g4.trans k4⟩
  ·exact tU (l:=r) h
def CD (s:St) (t:Tmp):Option (Bool × St):=match lk s.af t with
 |.v (.eH _ _ _ _ _)=>rU false false s t
 |_=>some (true,s)
def Fs (E:Env) (f:FuncId) (o:Oper) (s:St):Option (Bool × St):=match o.dst with
 |none=>some (true,s)
 |some d=>match E.B7 f (d+327680) with
  |true=>rU false (E.B7 f (d+458752)) s d
  |false=>match E.gho f d with
   |[]=>some (true,s)
   |x :: l=>match Nat.beq x.2.2 1048576,x.1 with
    |true,some t=>CD s t
    |_,_=>match Y8 s d (x :: l) with
     |some r=>some (true,mq r s)
     |none=>none
theorem mD {cut wk:Bool} {s s':St} {t:Tmp} {c:Bool} (h:rU cut wk s t=some (c,s')):aP s s':=by
 unfold rU at h
 repeat' (split at h)
 all_goals (first|(cases h; done) | skip)
 all_goals (injection h with h; injection h with _ h; subst h; exact ⟨⟨[_],rfl⟩,⟨[],rfl⟩,rfl⟩)
theorem Ld {s s':St} {t:Tmp} {c:Bool} (h:CD s t=some (c,s')):aP s s':=by
 unfold CD at h;split at h
 ·exact mD h
 ·cases h; exact aP.refl _
theorem Le {t:Tmp} (h:bk E R w β s a) (hs:CD s t=some (true,s')):∃ R',bk E R' w β s' a∧Step R w β s.boxes R' w β s'.boxes∧s'.ro=s.ro∧aP s s':=by
 unfold CD at hs;split at hs
 ·obtain ⟨R',r1,r2,r3⟩:=tT h hs;exact ⟨R',r1,r2,r3,mD hs⟩
 ·cases hs;exact ⟨R,h,Step.refl _ _ _ _,rfl,aP.refl _⟩
theorem OX {f:FuncId} {o:Oper} (h:bk E R w β s a) (hs:Fs E f o s=some (true,s')):∃ R',bk E R' w β s' a∧Step R w β s.boxes R' w β s'.boxes∧s'.ro=s.ro∧aP s s':=by
 unfold Fs at hs;split at hs
 ·cases hs;exact ⟨R,h,Step.refl _ _ _ _,rfl,aP.refl _⟩
 ·split at hs
  ·obtain ⟨R',r1,r2,r3⟩:=tT h hs;exact ⟨R',r1,r2,r3,mD hs⟩
  ·split at hs
   ·cases hs;exact ⟨R,h,Step.refl _ _ _ _,rfl,aP.refl _⟩
   ·split at hs
    ·exact Le h hs
    ·split at hs
     ·cases hs;exact tU h
     ·cases hs
end
end Go.Am
namespace Go.Am
open Go
def cw (R:aj) (ro:Option Nat) (F:Fence):Prop:=match ro with
 |none=>F=aau
 |some id=>∃ b,nth R.obj id=some (.cu b)∧F=aau.inRound b
theorem cw.mono {R R':aj} {w w':World} (e:Ext R w R' w') {ro:Option Nat} {F:Fence} (h:cw R ro F):cw R' ro F:=by
 cases ro with
 |none=>exact h
 |some id=>obtain ⟨b,h1,h2⟩:=h; exact ⟨b,e.cu h1,h2⟩
theorem cw.fn {R:aj} {ro:Option Nat} {F:Fence} (h:cw R ro F) (f:FuncId):F.fn f:=by
 cases ro with
 |none=>rw [show F=aau from h]; trivial
 |some id=>obtain ⟨b,_,h2⟩:=h; rw [h2]; trivial
theorem cw.depth {R:aj} {ro:Option Nat} {F:Fence} (h:cw R ro F):F.depth=none:=by
 cases ro with
 |none=>rw [show F=aau from h]; rfl
 |some id=>obtain ⟨b,_,h2⟩:=h; rw [h2]; rfl
theorem cw.calls {R:aj} {ro:Option Nat} {F:Fence} (h:cw R ro F) {n:Nat} {P:Program} {f:FuncId} {args:Array Value} {w:World} {Q:Ending→World→Prop} (hc:CallsIn aau n P f args w Q):CallsIn F n P f args w Q:=by
 cases ro with
 |none=>rw [show F=aau from h]; exact hc
 |some id=>obtain ⟨b,_,h2⟩:=h; rw [h2]; exact hc
def Y9 (E:Env) (R:aj) (w:World) (β:Nat→Nat) (s:St) (Q:Exit→St→Prop):Exit→Act→World→Prop:=
 fun e a' w'=>∃ s' R' β',Q e s'∧bk E R' w' β' s' a'∧Step R w β s.boxes R' w' β' s'.boxes∧s'.ro=s.ro
def gY (E:Env) (c:Code) (Q:Exit→St→Prop) (s:St):Prop:=
 ∀ (R:aj) (w:World) (β:Nat→Nat) (a:Act) (F:Fence),bk E R w β s a→cw R s.ro F→c.wpIn F 0 E.P (Y9 E R w β s Q) a w
theorem gY.mono {E:Env} {c:Code} {Q Q':Exit→St→Prop} {s:St} (h:gY E c Q s) (hq:∀ e s,Q e s→Q' e s):gY E c Q' s:=
 fun R w β a F hr hf=>wpIn_mono (h R w β a F hr hf) fun e _ _ ⟨s',R',β',h1,h2⟩=>⟨s',R',β',hq e s' h1,h2⟩
section rules
variable {E:Env} {Q:Exit→St→Prop} {s:St}
theorem gY.skip (h:Q .normal s):gY E .skip Q s:=fun _ _ _ _ _ hr _=>wpIn_skip ⟨s,_,_,h,hr,Step.refl _ _ _ _,rfl⟩
theorem gY.label {l:Nat} (h:Q .normal s):gY E (.label l) Q s:=fun _ _ _ _ _ hr _=>wpIn_label ⟨s,_,_,h,hr,Step.refl _ _ _ _,rfl⟩
theorem gY.exit {id:Nat} (h:Q (.exit id) s):gY E (.exit id) Q s:=fun _ _ _ _ _ hr _=>wpIn_exit ⟨s,_,_,h,hr,Step.refl _ _ _ _,rfl⟩
theorem gY.ret (h:Q .ret s):gY E .ret Q s:=fun _ _ _ _ _ hr _=>wpIn_ret ⟨s,_,_,h,hr,Step.refl _ _ _ _,rfl⟩
def Ar (N:St→Prop) (Q:Exit→St→Prop):Exit→St→Prop
 |.normal,s=>N s
 |e,s=>Q e s
theorem gY.seq {x y:Code} (h:gY E x (Ar (gY E y Q) Q) s):gY E (.seq x y) Q s:=fun R w β a F hr hf=>by
 refine wpIn_seq (wpIn_mono (h R w β a F hr hf) ?_);rintro e a' w' ⟨s',R',β',hq,nD,ks,bD⟩;cases e with
 |normal=>
  refine wpIn_mono (hq R' w' β' a' F nD (by rw [bD]; exact hf.mono ks.ext)) ?_;rintro e a'' Us ⟨GJ,QD,Xq,Q9,CE,vN,As⟩;exact ⟨GJ,QD,Xq,Q9,CE,ks.trans vN,As.trans bD⟩
 |_=>exact ⟨s',R',β',hq,nD,ks,bD⟩
theorem gY.cond {c:Operand} {x y:Code} {b:Bool} (hc:bJ E s.af c=.v (.bool b)) (h1:b=true→gY E x Q s) (h2:b=false→gY E y Q s):gY E (.cond c x y) Q s:=fun R w β a F hr hf=>by
 have rc:=aY hr c;rw [hc] at rc;have hb:a.eval c=.bool b:=by
  have rc':Rel R w (.bool b) (a.eval c):=rc;generalize a.eval c=v at rc';cases rc';rfl
 exact wpIn_cond_split hb (fun e=>h1 e R w β a F hr hf) (fun e=>h2 e R w β a F hr hf)
def Za (id:Nat) (Q:Exit→St→Prop):Exit→St→Prop
 |.exit nN,s=>(nN=id→Q .normal s)∧(nN≠id→Q (.exit nN) s)
 |e,s=>Q e s
theorem gY.block {id:Nat} {c:Code} (h:gY E c (Za id Q) s):gY E (.block id c) Q s:=fun R w β a F hr hf=>by
 refine wpIn_block (wpIn_mono (h R w β a F hr hf) ?_);rintro e a' w' ⟨s',R',β',hq,rest⟩;cases e with
 |exit nN=>
  by_cases e:nN=id
  ·simp only [Exit.inBlock,e,if_true];exact ⟨s',R',β',hq.1 e,rest⟩
  ·simp only [Exit.inBlock,e,if_false];exact ⟨s',R',β',hq.2 e,rest⟩
 |_=>exact ⟨s',R',β',hq,rest⟩
theorem lN {F:Fence} {n:Nat} {P:Program} {Q:Exit→Act→World→Prop} {c:Code} (I:Nat→Act→World→Prop)
  (round:∀ m a w,I m a w→c.wpIn F n P (Exit.then (fun a' w'=>∃ m',m' < m∧I m' a' w') Q) a w):∀ {m:Nat} {a:Act} {w:World},I m a w→(Code.loop c).wpIn F n P Q a w:=by
 intro m a w h₀ b k cs bD hb hr;have key:∀ j a w,I j a w →
   ∃ e a' w',Q e a' w'∧ArrivesIn (Machine.fenced P F) P (lone (b.atR a (.code c :: .inLoop c :: k)) cs w) b k cs e a' w':=by
  intro j
  induction j using Nat.strongRecOn with
  |_ j ih=>
   intro a w hI;obtain ⟨e,a₁,w₁,hq,wF⟩:=round j a w hI b (.inLoop c :: k) cs bD hb hr;cases e with
   |normal=>
    obtain ⟨m',cI,hI₁⟩:=hq;obtain ⟨e₂,a₂,w₂,hq₂,ad2⟩:=ih m' cI a₁ w₁ hI₁;exact ⟨e₂,a₂,w₂,hq₂,.of_steps (StepsIn.trans wF (.one (fenced_calm hb hr rfl) stepR_inLoop)) ad2⟩
   |exit id=>exact ⟨_,a₁,w₁,hq,.pass (x:=.inLoop c) rfl (fun _ _=>.inl (by simp)) wF⟩
   |goto l=>exact ⟨_,a₁,w₁,hq,.pass (x:=.inLoop c) rfl (fun _ _=>.inl (by simp)) wF⟩
   |ret=>exact ⟨_,a₁,w₁,hq,.pass (x:=.inLoop c) rfl (fun _ _=>.inl (by simp)) wF⟩
   |panic ch=>exact ⟨_,a₁,w₁,hq,.pass (x:=.inLoop c) rfl (fun _ _=>.inl (by simp)) wF⟩
   |outgrown=>exact ⟨_,a₁,w₁,hq,.pass (x:=.inLoop c) rfl (fun _ _=>.inl (by simp)) wF⟩
 obtain ⟨e,a',w',hq,wF⟩:=key _ a w h₀;exact ⟨e,a',w',hq,.of_steps (.one (fenced_calm hb hr rfl) stepR_loop) wF⟩
theorem gY.loop {c:Code} (I:Nat→St→Prop) (round:∀ m s,I m s→gY E c (Ar (fun s'=>∃ m',m' < m∧I m' s') Q) s) {m:Nat} (h:I m s):gY E (.loop c) Q s:=fun R w β a F hr hf=>by
 refine lN (fun m a' w'=>∃ s' R' β',I m s'∧bk E R' w' β' s' a'∧Step R w β s.boxes R' w' β' s'.boxes∧s'.ro=s.ro) ?_ ⟨s,R,β,h,hr,Step.refl _ _ _ _,rfl⟩;rintro m a' w' ⟨s',R',β',hI,nD,ks,bD⟩;refine wpIn_mono (round m s' hI R' w' β' a' F nD (by rw [bD]; exact hf.mono ks.ext)) ?_;rintro e a'' Us ⟨GJ,QD,Xq,hq,CE,vN,As⟩;cases e with
 |normal=>
  obtain ⟨m',cI,hI'⟩:=hq;exact ⟨m',cI,GJ,QD,Xq,hI',CE,ks.trans vN,As.trans bD⟩
 |_=>exact ⟨GJ,QD,Xq,hq,CE,ks.trans vN,As.trans bD⟩
end rules
def noGoto (Q:Exit→Act→World→Prop):Exit→Act→World→Prop
 |.goto _,_,_=>False
 |e,a,w=>Q e a w
section scopes
variable {P:Program} {b:Frame} {a:Act} {k:List Item} {cs:List Frame} {w:World} {Q:Exit→Act→World→Prop} {F:Fence} {n:Nat}
theorem kv {c:Code}:step P (lone (b.atR a (.code (.scope c) :: k)) cs w)=.next (lone (b.atR a (.code c :: .inScope c :: k)) cs w):=
 step_lone_go (by simp [stepG,stepG.exec,Frame.atR])
theorem EI {c:Code}:step P (lone (b.atR a (.inScope c :: k)) cs w)=.next (lone (b.atR a k) cs w):=
 step_lone_go (by simp [stepG,stepG.exec,Frame.atR])
theorem Lf {c:Code} (h:c.wpIn F n P (noGoto Q) a w):(Code.scope c).wpIn F n P Q a w:=by
 intro b k cs bD hb hr;have h0:(lone (b.atR a (.code (.scope c) :: k)) cs w).fenced P F:=fenced_calm hb hr rfl;obtain ⟨e,a₁,w₁,hq,wF⟩:=h b (.inScope c :: k) cs bD hb hr;cases e with
 |normal=>exact ⟨.normal,a₁,w₁,hq,.head h0 kv (StepsIn.trans wF (.one (fenced_calm hb hr rfl) EI))⟩
 |exit id=>
  have hx:exitTo id (.inScope c :: k)=exitTo id k:=by simp [exitTo]
  exact ⟨.exit id,a₁,w₁,hq,fun k' hk=>.head h0 kv (wF.1 k' (by rw [hx]; exact hk)),
    fun nD hk=>let ⟨k₁,h1,h2⟩:=wF.2 nD (by rw [hx]; exact hk); ⟨k₁,h1,.head h0 kv h2⟩⟩
 |goto l=>exact hq.elim
 |ret=>exact ⟨_,a₁,w₁,hq,.of_steps (.one h0 kv) wF⟩
 |panic ch=>exact ⟨_,a₁,w₁,hq,.of_steps (.one h0 kv) wF⟩
 |outgrown=>exact ⟨_,a₁,w₁,hq,.of_steps (.one h0 kv) wF⟩
end scopes
def Zb (Q:Exit→St→Prop):Exit→St→Prop
 |.goto _,_=>False
 |e,s=>Q e s
theorem gY.scope {E:Env} {c:Code} {Q:Exit→St→Prop} {s:St} (h:gY E c (Zb Q) s):gY E (.scope c) Q s:=fun R w β a F hr hf=>by
 refine Lf (wpIn_mono (h R w β a F hr hf) ?_);rintro e a' w' ⟨s',R',β',hq,rest⟩;cases e with
 |goto l=>exact hq.elim
 |_=>exact ⟨s',R',β',hq,rest⟩
def jG:dy:=[]
def Ft (E:Env) (R:aj) (w:World) (Q:AV→List GO→Prop):Ending→World→Prop
 |.returned c,w'=>∃ r G' R',Q r G'∧Rel R' w' r c∧gG E R' w' G'∧Step R w (fun _=>0) jG R' w' (fun _=>0) jG
 |_,_=>False
def GV (E:Env) (R:aj) (w:World) (Q:Bool→List GO→Prop):Ending→World→Prop
 |.returned c,w'=>∃ r G' R',Q r G'∧c=.bool r∧gG E R' w' G'∧Step R w (fun _=>0) jG R' w' (fun _=>0) jG
 |_,_=>False
def oJ (E:Env) (id:Nat) (args:List AV) (G:List GO) (Q:Bool→List GO→Prop):Prop:=
 ∀ (R:aj) (w:World) (cs:List Value) (b:Nat),gG E R w G→aW R w args cs→nth R.obj id=some (.cu b) →
  ∃ r:Loop,w.heap[b]?=some (.loop r)∧cs.length=r.params.size ∧
   RoundIn aau 0 E.P b r.fn ((r.params.zip ⟨cs⟩).foldl (fun tmps (t,a)=>tmps.setIfInBounds t a) r.tmps) r.assign r.body w (GV E R w Q)
theorem oJ.mono {E:Env} {id:Nat} {args:List AV} {G:List GO} {Q Q':Bool→List GO→Prop} (h:oJ E id args G Q) (hq:∀ r G',Q r G'→Q' r G'):oJ E id args G Q':=
 fun R w cs b hg hl hb=>by
  obtain ⟨r,h1,h2,h3⟩:=h R w cs b hg hl hb;refine ⟨r,h1,h2,h3.mono fun e w' he=>?_⟩;cases e with
  |returned c=>obtain ⟨r,G',R',k1,k2⟩:=he; exact ⟨r,G',R',hq _ _ k1,k2⟩
  |_=>exact he
def Plain (P : Program) (g : FuncId) : Prop := ∃ fn, P.funcs[g]? = some fn ∧ fn.body.isNone = false ∧ (fn.name == "runtime.NumGoroutine") = false
def dT (E:Env) (g:FuncId) (args:List AV) (G:List GO) (Q:AV→List GO→Prop):Prop:=
 Plain E.P g∧∀ (R:aj) (w:World) (cs:List Value),gG E R w G→aW R w args cs→CallsIn aau 0 E.P g ⟨cs⟩ w (Ft E R w Q)
theorem dT.mono {E:Env} {g:FuncId} {args:List AV} {G:List GO} {Q Q':AV→List GO→Prop} (h:dT E g args G Q) (hq:∀ r G',Q r G'→Q' r G'):dT E g args G Q':=
 ⟨h.1,fun R w cs hg hl=>(h.2 R w cs hg hl).mono fun e _ he=>by
  cases e with
  |returned c=>obtain ⟨r,G',R',h1,h2⟩:=he; exact ⟨r,G',R',hq _ _ h1,h2⟩
  |_=>exact he⟩
theorem iF {R:aj} {β:Nat→Nat} {b:Nat} (h:Own R β jG b):Live R b:=by
 rcases h with h|⟨k,cs,hk,_⟩
 ·exact h
 ·simp [jG,eJ] at hk
section calls
variable {E:Env} {R R':aj} {w w':World} {β:Nat→Nat} {s:St} {a:Act} {o:Oper}
theorem bk.uV (h:bk E R w β s a) {G':List GO} (hg:gG E R' w' G') (st:Step R w (fun _=>0) jG R' w' (fun _=>0) jG) :
  bk E R' w' β (s.cj G') a∧Step R w β s.boxes R' w' β s.boxes:=by
 have KV:∀ k cs,eJ s.boxes k=some cs→β k < w.heap.size∧¬ Live R (β k):=fun k cs hk=>⟨h.fD (.inr ⟨k,cs,hk,rfl⟩),(h.b.box k cs hk).2.2⟩
 have live:∀ b,b < w.heap.size→Live R' b→Live R b:=fun b hb hl=>iF (st.own b hb (.inl hl))
 refine ⟨⟨hg,h.b.bh st.ext (fun k cs hk=>?_) (fun k cs o hk hi=>?_) (fun k cs hk hl=>live _ (KV k cs hk).1 hl),h.t.mono st.ext,h.n,h.d.mono st.ext⟩,?_⟩
 ·obtain ⟨h1,h2⟩:=KV k cs hk;exact st.bh _ h1 (fun ho=>h2 (iF ho))
 ·obtain ⟨h1,h2⟩:=KV k cs hk;exact st.im _ o hi h1 (fun ho=>h2 (iF ho))
 ·refine ⟨st.ext,st.os,st.tape,st.output,st.size,fun b hb hn=>st.bh b hb (fun ho=>hn (.inl (iF ho))),fun b hb ho=>?_,fun b o hi hb hn=>st.im b o hi hb (fun ho=>hn (.inl (iF ho)))⟩;rcases ho with ho|ho
  ·exact .inl (live b hb ho)
  ·exact .inr ho
theorem sr {P:Program} {g:FuncId} (h:Plain P g) (args:Array Value) (w:World):(callFunc g args).run P w=.ok (.enter g args) w:=by
 obtain ⟨fn,h1,h2,h3⟩:=h;unfold callFunc;simp only [aax,run_program,aav,h1,h2,h3,Bool.false_eq_true,if_false,aaK]
def tV (E:Env) (R:aj) (w:World) (β:Nat→Nat) (s:St) (K:St→Prop) (a':Act) (w':World):Prop:=
 ∃ s' R' β',K s'∧bk E R' w' β' s' a'∧Step R w β s.boxes R' w' β' s'.boxes∧s'.ro=s.ro
@[simp] theorem kV (s:St) (d:Option Tmp) (x:SV):(s.put d x).ro=s.ro:=by
 cases d with
 |none=>rfl
 |some d=>
  simp only [St.put];split <;> rfl
theorem Ra {f:FuncId} {c:Bool} {s':St} (h:jN E f s o=some (c,s')):s'.ro=s.ro:=by
 unfold jN at h
 repeat' (split at h)
 all_goals (first|(cases h; done) | skip)
 all_goals (injection h with h; injection h with _ h; subst h; simp [St.cj])
theorem OY {t:TypeId} {p x:SV} {c:Bool} {s':St} (h:iS E s t p x=some (c,s')):s'.ro=s.ro:=by
 have store:∀ {t:TypeId} {p x:SV} {s':St},jI E s t p x=some s'→s'.ro=s.ro:=by
  intro t p x s' h;unfold jI at h
  repeat' (split at h)
  all_goals (first|(cases h; done) | skip)
  all_goals (injection h with h; subst h; rfl)
 unfold iS at h
 repeat' (split at h)
 all_goals (first|(cases h; done) | skip)
 all_goals (injection h with h; injection h with _ h; subst h)
 all_goals (first|rfl | exact store (by assumption))
theorem OZ {f:FuncId} {c:Bool} {s':St} (h:an E f s o=some (c,s')):s'.ro=s.ro:=by
 have alloc:∀ {el:TypeId} {cs:List AV} {c:Bool} {s':St},hY E f s o.dst el cs=some (c,s')→s'.ro=s.ro:=by
  intro el cs c s' h;unfold hY at h
  repeat' (split at h)
  all_goals (first|(cases h; done) | skip)
  all_goals (injection h with h; injection h with _ h; subst h; simp [St.fq,St.Af,St.kill])
 have store:∀ {t:TypeId} {p x:SV} {s':St},jI E s t p x=some s'→s'.ro=s.ro:=by
  intro t p x s' h;unfold jI at h
  repeat' (split at h)
  all_goals (first|(cases h; done) | skip)
  all_goals (injection h with h; subst h; rfl)
 have Zc:∀ {t:TypeId} {p x:SV} {c:Bool} {s':St},iS E s t p x=some (c,s')→s'.ro=s.ro:=by
  intro t p x c s' h;unfold iS at h
  repeat' (split at h)
  all_goals (first|(cases h; done) | skip)
  all_goals (injection h with h; injection h with _ h; subst h)
  all_goals (first|rfl | exact store (by assumption))
 have Zd:∀ {t:TypeId} {p x:SV} {c:Bool} {s':St},nf E s t p x=some (c,s')→s'.ro=s.ro:=by
  intro t p x c s' h;unfold nf at h;split at h
  ·rename_i hs;injection h with h; injection h with _ h;subst h;exact OY (s:=s.cj (wo s p x).2.2) hs
  ·cases h
 have blt:∀ {b:Builtin} {l:List AV} {tys:List TypeId} {c:Bool} {s':St},dm E s o.dst b l tys=some (c,s')→s'.ro=s.ro:=by
  intro b l tys c s' h;unfold dm at h
  repeat' (split at h)
  all_goals (first|(cases h; done) | skip)
  all_goals (injection h with h; injection h with _ h; subst h; simp [St.cj])
 have update:∀ {t:TypeId} {m k x:SV} {s':St},ia E s t m k x=some s'→s'.ro=s.ro:=by
  intro t m k x s' h;unfold ia at h
  repeat' (split at h)
  all_goals (first|(cases h; done) | skip)
  all_goals (injection h with h; subst h; rfl)
 have next:∀ {x:SV} {s':St},pU s o.dst x=some s'→s'.ro=s.ro:=by
  intro x s' h;unfold pU at h;split at h
  ·split at h
   ·rename_i l pos hg;cases hb:Nat.blt pos l.length <;> rw [hb] at h <;> simp only [cond_true,cond_false] at h <;> cases h <;> simp [St.cj]
   ·cases h
  ·cases h
 have Lg:∀ {t:TypeId} {m k:SV} {c:Bool} {v:AV} {s':St},jv E s t m k=some (c,v,s')→s'.ro=s.ro:=by
  intro t m k c v s' h;unfold jv at h
  repeat' (split at h)
  all_goals (first|(cases h; done) | skip)
  all_goals (injection h with h; injection h with _ h; injection h with _ h; subst h; rfl)
 have Lh:∀ {m st x:SV} {c:Bool} {s':St},fV s m st x=some (c,s')→s'.ro=s.ro:=by
  intro m st x c s' h;unfold fV at h
  repeat' (split at h)
  all_goals (first|(cases h; done) | skip)
  all_goals (injection h with h; injection h with _ h; subst h; rfl)
 unfold an rV at h
 repeat' (split at h)
 all_goals (first|(cases h; done) | exact alloc h | exact blt h | (rename_i hf; cases h; exact Ra hf) | skip)
 all_goals (injection h with h; injection h with _ h; subst h)
 all_goals (first|(simp; done) | (simp [St.fq]; done) | (simp [St.cj]; done) | skip)
 all_goals (first|exact Zd (by assumption) | exact update (by assumption) | exact (kV _ _ _).trans (Lg (by assumption)) | exact Lh (by assumption) | exact next (by assumption))
theorem IC {f:FuncId} {F:Fence} {s':St} {K:St→Prop} {Qc:Exit→Act→World→Prop} (h:bk E R w β s a) (hf:cw R s.ro F) (hs:an E f s o=some (true,s')) (hK:K s')
  (nd:∀ c,o.op≠.defer c) (N:Act→World→Prop) (hN:∀ a' w',tV E R w β s K a' w'→N a' w'):o.wpIn F 0 E.P a w N Qc:=by
 obtain ⟨nx,x,w',R',β',h1,h2,h3,h4⟩:=IA h hs;refine ⟨fun f _=>hf.fn f,?_⟩;rw [aaA _ _ _ nd,h1];have:N (a.put o.dst x) w':=hN _ _ ⟨s',R',β',hK,h3,h4,OZ hs⟩;rcases h2 with rfl|⟨rfl,rfl⟩
 ·exact this
 ·exact this
theorem O0 {F:Fence} {K:St→Prop} {Qc:Exit→Act→World→Prop} (h:bk E R w β s a) (hf:cw R s.ro F) {fo:Operand} {args:Array Operand} {tys:Array TypeId} (ho:o.op=.call { callee:=.value fo,args:=args,argTypes:=tys })
  {g:FuncId} {first cap l:List AV} (hfo:bJ E s.af fo=.v (.fn g first cap)) (hl:qm E s.af args.toList=some l)
  (hc:dT E g (first++l++cap) s.G (fun r G'=>K ((s.cj G').put o.dst (.v r)))) (N:Act→World→Prop) (hN:∀ a' w',tV E R w β s K a' w'→N a' w'):o.wpIn F 0 E.P a w N Qc:=by
 refine ⟨fun f _=>hf.fn f,?_⟩;have rf:=aY h fo;rw [hfo] at rf;have rf':Rel R w (.fn g first cap) (a.eval fo):=rf;have rl:=jz h hl;generalize Ze:a.eval fo=fv at rf';cases rf' with
 | @fn _ _ _ vs us h1 h2=>
 have cq:(o.semAt F.round a.eval).run E.P w=.ok (.enter g ⟨vs++args.toList.map a.eval++us⟩) w:=by
  rw [aaA _ _ _ (fun c e=>by rw [ho] at e; cases e)];simp only [execOp,ho,resolve,Ze,acI,aax,aaK,aav,invoke,oF];have:=sr hc.1 (⟨vs⟩++⟨args.toList.map a.eval⟩++⟨us⟩) w;simpa using this
 rw [cq];refine ⟨fun e=>by rw [hf.depth] at e; simp at e,hf.calls ?_⟩;refine (hc.2 R w (vs++args.toList.map a.eval++us) h.g ((h1.append rl).append h2)).mono ?_;intro e Us he;cases e with
 |returned c=>
  obtain ⟨r,G',R',hK,hr,hg,st⟩:=he;obtain ⟨q1,q2⟩:=h.uV hg st;exact hN _ _ ⟨_,R',β,hK,q1.put o.dst (x:=.v r) hr,by rw [bo]; exact q2,by rw [kV]; rfl⟩
 |panicked c=>exact he.elim
 |outgrown=>exact he.elim
theorem cw.rounds {R:aj} {ro:Option Nat} {F:Fence} (h:cw R ro F) {n:Nat} {P:Program} {l:Nat} {f:FuncId} {tmps:Array Value} {wG bd:Code} {w:World} {Q:Ending→World→Prop}
  (hc:RoundIn aau n P l f tmps wG bd w Q):RoundIn F n P l f tmps wG bd w Q:=by
 cases ro with
 |none=>rw [show F=aau from h]; exact hc
 |some id=>obtain ⟨b,_,h2⟩:=h; rw [h2]; exact hc
theorem Li {F:Fence} {K:St→Prop} {Qc:Exit→Act→World→Prop} (h:bk E R w β s a) (hf:cw R s.ro F) {fo:Operand} {args:Array Operand} {tys:Array TypeId} (ho:o.op=.call { callee:=.value fo,args:=args,argTypes:=tys })
  {id:Nat} {l:List AV} (hfo:bJ E s.af fo=.v (.yield id)) (hl:qm E s.af args.toList=some l)
  (hc:oJ E id l s.G (fun b G'=>K ((s.cj G').put o.dst (.v (.bool b))))) (N:Act→World→Prop) (hN:∀ a' w',tV E R w β s K a' w'→N a' w'):o.wpIn F 0 E.P a w N Qc:=by
 refine ⟨fun f _=>hf.fn f,?_⟩;have rf:=aY h fo;rw [hfo] at rf;have rf':Rel R w (.yield id) (a.eval fo):=rf;have rl:=jz h hl;generalize Ze:a.eval fo=fv at rf';cases rf' with
 | @yield _ b hb=>
 obtain ⟨r,Kl,Fu,hr3⟩:=hc R w (args.toList.map a.eval) b h.g rl hb;have cq:(o.semAt F.round a.eval).run E.P w=.ok (.round b r.fn ((r.params.zip ⟨args.toList.map a.eval⟩).foldl (fun tmps (t,a)=>tmps.setIfInBounds t a) r.tmps) r.assign r.body) w:=by
  rw [aaA _ _ _ (fun c e=>by rw [ho] at e; cases e)];simp only [execOp,ho,resolve,Ze,acI,aax,aaK,aav,invoke,oF];have:=run_yield (P:=E.P) Kl (args:=⟨args.toList.map a.eval⟩) Fu;simpa using this
 rw [cq];refine ⟨fun e=>by rw [hf.depth] at e; simp at e,hf.rounds (hr3.mono ?_)⟩;intro e Us he;cases e with
 |returned c=>
  obtain ⟨r,G',R',hK,rfl,hg,st⟩:=he;obtain ⟨q1,q2⟩:=h.uV hg st;exact hN _ _ ⟨_,R',β,hK,q1.put o.dst (x:=.v (.bool r)) (Rel.bool r),by rw [bo]; exact q2,by rw [kV]; rfl⟩
 |panicked c=>exact he.elim
 |outgrown=>exact he.elim
end calls
def tW (ops:List Oper) (j:Nat):Option Tmp:=match nth ops j with
 |some o=>o.dst
 |none=>none
def fj:Bool→Prop→Prop
 |true,p=>p
 |false,_=>False
theorem fj.mk {c:Bool} {p:Prop} (h:c=true) (hp:p):fj c p:=by subst h; exact hp
theorem fj.out {c:Bool} {p:Prop} (h:fj c p):c=true∧p:=by
 cases c
 ·exact h.elim
 ·exact ⟨rfl,h⟩
def nV (E:Env) (f:FuncId) (o:Oper) (K:St→Prop) (s:St):Prop:=
 match o.op with
 |.call { callee:=.value x,args,.. }=>match bJ E s.af x,qm E s.af args.toList with
  |.v (.fn g first cap),some l=>dT E g (first++l++cap) s.G (fun r G'=>K ((s.cj G').put o.dst (.v r)))
  |.v (.yield id),some l=>oJ E id l s.G (fun b G'=>K ((s.cj G').put o.dst (.v (.bool b))))
  |_,_=>False
 |.defer _=>False
 |_=>match an E f s o with
  |some (c,s')=>fj c (K s')
  |none=>False
def cZ (E:Env) (f:FuncId) (ops:List Oper) (o:Oper) (K:St→Prop) (s:St):Prop:=
 match o.guard with
 |none=>nV E f o K s
 |some (j,want)=>match tW ops j with
  |none=>False
  |some d=>match lk s.af d with
   |.v (.bool b)=>(b=want→nV E f o K (s.put (some d) (.v (.bool want))))∧(b=!want→K ((s.put (some d) (.v (.bool (!want)))).put o.dst (.v jd)))
   |.v (.bG [])=>K (s.put o.dst (.v jd))
   |_=>False
def jh (E:Env) (f:FuncId) (ops:List Oper) (o:Oper) (K:St→Prop) (s:St):Prop:=
 match o.guard,mz E f s o with
 |none,some s'=>K s'
 |_,_=>cZ E f ops o K s
def iu (E:Env) (f:FuncId) (ops:List Oper) (o:Oper) (K:St→Prop) (s:St):Prop:=
 match o.guard,Ai E f s o,zi E s o with
 |none,some (c,s'),_=>fj c (K s')
 |none,none,some (c,s0,left,g)=>fj c ((left=[]→K s0)∧∀ i∈left,fj (g i).1 (K (g i).2))
 |_,_,_=>jh E f ops o K s
def iw (E:Env) (f:FuncId) (ops:List Oper) (o:Oper) (K:St→Prop) (s:St):Prop:=
 match Ox E f s o with
 |some (c,s')=>c=true∧iu E f ops o K s'
 |none=>iu E f ops o K s
def Fv (E:Env) (f:FuncId) (o:Oper) (K:St→Prop) (s:St):Prop:=match Fs E f o s with
 |some (c,s')=>c=true∧K s'
 |none=>False
def tX (E:Env) (f:FuncId) (ops:List Oper):List Oper→(St→Prop)→St→Prop
 |[],K,s=>K s
 |o :: rest,K,s=>iw E f ops o (Fv E f o (tX E f ops rest K)) s
section regions
variable {E:Env} {R:aj} {w:World} {β:Nat→Nat} {s:St} {a:Act}
theorem Fw {f:FuncId} {o:Oper} {F:Fence} {K:St→Prop} {Qc:Exit→Act→World→Prop} (h:bk E R w β s a) (hf:cw R s.ro F) (ha:nV E f o K s) (N:Act→World→Prop) (hN:∀ a' w',tV E R w β s K a' w'→N a' w') :
  o.wpIn F 0 E.P a w N Qc:=by
 unfold nV at ha;split at ha
 ·rename_i x args tys ho;split at ha
  ·rename_i g first cap l h1 h2
   exact O0 h hf ho h1 h2 ha N hN
  ·rename_i id l h1 h2;exact Li h hf ho h1 h2 ha N hN
  ·exact ha.elim
 ·exact ha.elim
 ·rename_i nc nd;split at ha
  ·rename_i c s' hs;obtain ⟨rfl,hK⟩:=ha.out;exact IC h hf hs hK (fun c e=>nd c e) N hN
  ·exact ha.elim
theorem bk.ID (h:bk E R w β s a) {d:Tmp} {b t:Bool} (hd:lk s.af d=.v (.bool b)) (e:b=t):bk E R w β (s.put (some d) (.v (.bool t))) a:=by
 subst e;simp only [St.put];split
 ·refine ⟨h.g,h.b,fun i hi=>?_,h.n,h.d⟩;by_cases e:d=i
  ·subst e;rw [aG];have:=h.t d (by rw [hd]; simp);rw [hd] at this;exact this
  ·rw [aX e] at hi ⊢;exact h.t i hi
 ·exact h
theorem Lj (h:bk E R w β s a) {ops:Array Oper} {j:Nat} {d:Tmp} {b:Bool} (hj:tW ops.toList j=some d) (hd:lk s.af d=.v (.bool b)):yielded ops a.tmps j=some b:=by
 unfold tW at hj;split at hj
 ·rename_i o ho;rw [bg] at ho;have zv:ops[j]?=some o:=by simpa using ho
  obtain ⟨c,h1,h2⟩:=h.t d (by rw [hd]; simp);rw [hd] at h2;have h2':Rel R w (.bool b) c:=h2;cases h2';simp [yielded,zv,hj,h1]
 ·cases hj
theorem EJ (h:bk E R w β s a) {ops:Array Oper} {j:Nat} {d:Tmp} (hj:tW ops.toList j=some d) (hd:lk s.af d=.v (.bG [])):yielded ops a.tmps j=none:=by
 unfold tW at hj;split at hj
 ·rename_i o ho;rw [bg] at ho;have zv:ops[j]?=some o:=by simpa using ho
  obtain ⟨c,h1,h2⟩:=h.t d (by rw [hd]; simp);rw [hd] at h2;have h2':Rel R w (.bG []) c:=h2;cases h2';simp [yielded,zv,hj,h1]
 ·cases hj
theorem xQ {f:FuncId} {o:Oper} {F:Fence} {ops:Array Oper} {K:St→Prop} {Qc:Exit→Act→World→Prop} (h:bk E R w β s a) (hf:cw R s.ro F) (ha:cZ E f ops.toList o K s) (N:Act→World→Prop) (hN:∀ a' w',tV E R w β s K a' w'→N a' w') :
  (if aal o (yielded ops a.tmps) then o.wpIn F 0 E.P a w N Qc else (∀ f,o.about E.P w a.eval=some f→F.fn f)∧N (a.put o.dst undef) w):=by
 unfold cZ at ha;split at ha
 ·rename_i hg;have:aal o (yielded ops a.tmps)=true:=by simp [aal,hg]
  rw [if_pos this];exact Fw h hf ha N hN
 ·rename_i j want hg;split at ha
  ·exact ha.elim
  ·rename_i d hd;split at ha
   ·rename_i b hb;have hy:=Lj h hd hb;by_cases hw:b=want
    ·have:aal o (yielded ops a.tmps)=true:=by simp [aal,hg,hy,hw]
     rw [if_pos this];exact Fw (h.ID hb hw) (by rw [kV]; exact hf) (ha.1 hw) N (fun a' w' hh=>hN a' w' (by
      obtain ⟨s',R',β',q1,q2,q3,q4⟩:=hh;exact ⟨s',R',β',q1,q2,by rw [bo] at q3; exact q3,by rw [kV] at q4; exact q4⟩))
    ·have hbw:b=!want:=by cases b <;> cases want <;> simp_all
     have:¬ aal o (yielded ops a.tmps)=true:=by simp [aal,hg,hy,hw]
     rw [if_neg this];refine ⟨fun f _=>hf.fn f,hN _ _ ⟨_,R,β,ha.2 hbw,(h.ID hb hbw).put o.dst (x:=.v jd) (Rel.bG .nil),by rw [bo,bo]; exact Step.refl _ _ _ _,by rw [kV,kV]⟩⟩
   ·rename_i hb;have hy:=EJ h hd hb;have:¬ aal o (yielded ops a.tmps)=true:=by simp [aal,hg,hy]
    rw [if_neg this];exact ⟨fun f _=>hf.fn f,hN _ _ ⟨_,R,β,ha,h.put o.dst (x:=.v jd) (Rel.bG .nil),by rw [bo]; exact Step.refl _ _ _ _,by rw [kV]⟩⟩
   ·exact ha.elim
theorem EL {f:FuncId} {o:Oper} {F:Fence} {ops:Array Oper} {K:St→Prop} {Qc:Exit→Act→World→Prop} (h:bk E R w β s a) (hf:cw R s.ro F) (ha:jh E f ops.toList o K s) (N:Act→World→Prop) (hN:∀ a' w',tV E R w β s K a' w'→N a' w') :
  (if aal o (yielded ops a.tmps) then o.wpIn F 0 E.P a w N Qc else (∀ f,o.about E.P w a.eval=some f→F.fn f)∧N (a.put o.dst undef) w):=by
 unfold jh at ha;split at ha
 ·rename_i s' hg hb;have:aal o (yielded ops a.tmps)=true:=by simp [aal,hg]
  rw [if_pos this];unfold mz at hb;split at hb
  ·rename_i t len parts ho;split at hb
   ·rename_i d hd;split at hb
    ·split at hb
     ·rename_i i hi;split at hb
      ·rename_i elem cL ag r7 z esz es hk hv;cases hb;obtain ⟨nx,x,w',R',β',h1,h2,h3,h4⟩:=zu h t len parts ho hv hi hk;refine ⟨fun f _=>hf.fn f,?_⟩;rw [aaA _ _ _ (fun c e=>by rw [ho] at e; cases e),h1];rw [hd] at h3 h4;have kJ:N (a.put o.dst x) w':=hN _ _ ⟨_,R',β',ha,by rw [hd]; exact h3,h4,by rw [kV]; rfl⟩;rcases h2 with rfl|⟨rfl,rfl⟩
       ·exact kJ
       ·exact kJ
      ·rename_i elem esz ag r7 z hk _;split at hb;rotate_left
       ·cases hb
       rename_i cs hv;cases hb;obtain ⟨nx,x,w',R',β',h1,h2,h3,h4⟩:=zt h t len parts ho hv hi hk;refine ⟨fun f _=>hf.fn f,?_⟩;rw [aaA _ _ _ (fun c e=>by rw [ho] at e; cases e),h1];rw [hd] at h3 h4;have kJ:N (a.put o.dst x) w':=hN _ _ ⟨_,R',β',ha,by rw [hd]; exact h3,h4,by rw [kV]; rfl⟩;rcases h2 with rfl|⟨rfl,rfl⟩
       ·exact kJ
       ·exact kJ
      ·cases hb
     ·cases hb
    ·split at hb
     ·split at hb
      ·rename_i i hi;split at hb
       ·rename_i elem cL ag r7 z esz es hk hv;split at hb
        ·rename_i hle;cases hb;obtain ⟨nx,x,w',R',β',h1,h2,h3,h4⟩:=zx h t len parts ho hv hi hk (aat hle);refine ⟨fun f _=>hf.fn f,?_⟩;rw [aaA _ _ _ (fun c e=>by rw [ho] at e; cases e),h1];rw [hd] at h3 h4;have kJ:N (a.put o.dst x) w':=hN _ _ ⟨_,R',β',ha,by rw [hd]; exact h3,h4,by rw [kV]; rfl⟩;rcases h2 with rfl|⟨rfl,rfl⟩
         ·exact kJ
         ·exact kJ
        ·cases hb
       ·cases hb
      ·cases hb
     ·split at hb
      ·split at hb
       ·rename_i i hi;split at hb
        ·rename_i elem cL ag r7 z esz es hk hv;split at hb
         ·rename_i hle;cases hb;obtain ⟨nx,x,w',R',β',h1,h2,h3,h4⟩:=zw h t len parts ho hv hi hk (aat hle);refine ⟨fun f _=>hf.fn f,?_⟩;rw [aaA _ _ _ (fun c e=>by rw [ho] at e; cases e),h1];rw [hd] at h3 h4;have kJ:N (a.put o.dst x) w':=hN _ _ ⟨_,R',β',ha,by rw [hd]; exact h3,h4,by rw [kV]; rfl⟩;rcases h2 with rfl|⟨rfl,rfl⟩
          ·exact kJ
          ·exact kJ
         ·cases hb
        ·cases hb
       ·cases hb
      ·cases hb
   ·cases hb
  ·cases hb
 ·exact xQ h hf ha N hN
theorem O1 {f:FuncId} {o:Oper} {c:Bool} {s':St} (h:wq E f s o=some (c,s')):s'.ro=s.ro∧∀ d,o.op≠.defer d:=by
 unfold wq at h;split at h
 ·split at h
  ·split at h
   ·rename_i t m k ok ho;refine ⟨?_,fun d e=>by rw [ho] at e; cases e⟩
    repeat' (split at h)
    all_goals (first|(cases h; done) | skip)
    all_goals (injection h with h; injection h with _ h; subst h; simp [St.cj])
   ·cases h
  ·cases h
 ·cases h
theorem UO {f:FuncId} {o:Oper} {c:Bool} {s':St} (h:KA E f s o=some (c,s')):s'.ro=s.ro∧∀ d,o.op≠.defer d:=by
 unfold KA at h;split at h
 ·rename_i t x lo d ho hd;refine ⟨?_,fun d e=>by rw [ho] at e; cases e⟩
  repeat' (split at h)
  all_goals (first|(cases h; done) | skip)
  all_goals (injection h with h; injection h with _ h; subst h; simp [St.cj])
 ·cases h
theorem Rb {f:FuncId} {o:Oper} {c:Bool} {s':St} (h:Ai E f s o=some (c,s')):s'.ro=s.ro∧∀ d,o.op≠.defer d:=by
 unfold Ai at h;split at h
 ·rename_i r hr;cases h;exact UO hr
 ·exact O1 h
theorem O2 {o:Oper} {c:Bool} {s0:St} {left:List Nat} {g:Nat→Bool × St} (h:zi E s o=some (c,s0,left,g)):(∃ x,o.op=.next x false∧Fa E s o.dst (bJ E s.af x)=some (c,s0,left,g))∧s0.ro=s.ro∧∀ i,(g i).2.ro=s.ro:=by
 unfold zi at h;split at h
 ·rename_i x ho;refine ⟨⟨x,ho,h⟩,?_⟩;unfold Fa at h;split at h
  ·split at h
   ·split at h
    ·cases h;exact ⟨kV _ _ _,fun i=>kV _ _ _⟩
    ·cases h
   ·cases h
  ·cases h
 ·cases h
theorem zB {f:FuncId} {F:Fence} {o:Oper} {s':St} {K:St→Prop} {Qc:Exit→Act→World→Prop} (hf:cw R s.ro F) (hd:cn E R w β s a o s') (hK:K s') (bD:s'.ro=s.ro)
  (nd:∀ c,o.op≠.defer c) (N:Act→World→Prop) (hN:∀ a' w',tV E R w β s K a' w'→N a' w'):o.wpIn F 0 E.P a w N Qc:=by
 obtain ⟨nx,x,w',R',β',h1,h2,h3,h4⟩:=hd;refine ⟨fun f _=>hf.fn f,?_⟩;rw [aaA _ _ _ nd,h1];have:N (a.put o.dst x) w':=hN _ _ ⟨s',R',β',hK,h3,h4,bD⟩;rcases h2 with rfl|⟨rfl,rfl⟩
 ·exact this
 ·exact this
theorem vO {f:FuncId} {o:Oper} {F:Fence} {ops:Array Oper} {K:St→Prop} {Qc:Exit→Act→World→Prop} (h:bk E R w β s a) (hf:cw R s.ro F) (ha:iu E f ops.toList o K s) (N:Act→World→Prop) (hN:∀ a' w',tV E R w β s K a' w'→N a' w') :
  (if aal o (yielded ops a.tmps) then o.wpIn F 0 E.P a w N Qc else (∀ f,o.about E.P w a.eval=some f→F.fn f)∧N (a.put o.dst undef) w):=by
 unfold iu at ha;split at ha
 ·rename_i c s' hg hb;have:aal o (yielded ops a.tmps)=true:=by simp [aal,hg]
  rw [if_pos this];obtain ⟨rfl,hK⟩:=ha.out;obtain ⟨k1,k2⟩:=Rb hb;exact zB (f:=f) hf (K8 h hb) hK k1 k2 N hN
 ·rename_i c s0 left g hg _ hb;have:aal o (yielded ops a.tmps)=true:=by simp [aal,hg]
  rw [if_pos this];obtain ⟨rfl,hK1,hK2⟩:=ha.out;obtain ⟨⟨x,ho,hm⟩,k1,k2⟩:=O2 hb;have nd:∀ c,o.op≠.defer c:=fun c e=>by rw [ho] at e; cases e
  rcases K5 h x ho hm with ⟨hl,hd⟩|⟨i,hi,hd⟩
  ·exact zB (f:=f) hf hd (hK1 hl) k1 nd N hN
  ·obtain ⟨q1,q2⟩:=(hK2 i hi).out;exact zB (f:=f) hf (hd q1) q2 (k2 i) nd N hN
 ·exact EL h hf ha N hN
theorem EM {f:FuncId} {o:Oper} {F:Fence} {ops:Array Oper} {K:St→Prop} {Qc:Exit→Act→World→Prop} (h:bk E R w β s a) (hf:cw R s.ro F) (ha:iw E f ops.toList o K s) (N:Act→World→Prop) (hN:∀ a' w',tV E R w β s K a' w'→N a' w') :
  (if aal o (yielded ops a.tmps) then o.wpIn F 0 E.P a w N Qc else (∀ f,o.about E.P w a.eval=some f→F.fn f)∧N (a.put o.dst undef) w):=by
 unfold iw at ha;split at ha
 ·rename_i c s' hz;obtain ⟨rfl,ha⟩:=ha;obtain ⟨R1,k1,k2,k3⟩:=Q8 h hz;refine vO k1 (by rw [k3]; exact hf.mono k2.ext) ha N ?_;rintro a' w' ⟨s2,R',β',q1,q2,q3,q4⟩;exact hN a' w' ⟨s2,R',β',q1,q2,k2.trans q3,q4.trans k3⟩
 ·exact vO h hf ha N hN
theorem CF {f:FuncId} {F:Fence} {ops:Array Oper} {K:St→Prop} {Qc:Exit→Act→World→Prop} (hQ:∀ a' w',tV E R w β s K a' w'→Qc .normal a' w') :
  ∀ (l:List Nat) (os:List Oper),l.map (fun i=>ops[i]?)=os.map some→∀ (R1:aj) (w1:World) (β1:Nat→Nat) (s1:St) (a1:Act),bk E R1 w1 β1 s1 a1→Step R w β s.boxes R1 w1 β1 s1.boxes→s1.ro=s.ro→cw R1 s1.ro F →
   tX E f ops.toList os K s1→wpOpsIn F 0 E.P ops Qc l a1 w1
 |[],os,hm,R1,w1,β1,s1,a1,hr,ks,bD,_,ha=>by
  have:os=[]:=by simpa using hm.symm
  subst this;exact hQ _ _ ⟨s1,R1,β1,ha,hr,ks,bD⟩
 |i :: l,[],hm,_,_,_,_,_,_,_,_,_,_=>by simp at hm
 |i :: l,o :: os,hm,R1,w1,β1,s1,a1,hr,ks,bD,hf,ha=>by
  simp only [List.map_cons,List.cons.injEq] at hm;obtain ⟨hi,hm⟩:=hm;simp only [wpOpsIn,hi];refine EM hr hf (show iw E f ops.toList o (Fv E f o (tX E f ops.toList os K)) s1 from ha) _ ?_;rintro a' w' ⟨s',R',β',q1,q2,q3,q4⟩;unfold Fv at q1;split at q1
  ·rename_i c s2 hp;obtain ⟨rfl,q1⟩:=q1;obtain ⟨R2,p1,p2,p3,_⟩:=OX q2 hp;exact CF hQ l os hm R2 w' β' s2 a' p1 ((ks.trans q3).trans p2) (p3.trans (q4.trans bD)) (by rw [p3,q4]; exact hf.mono (q3.ext.trans p2.ext)) q1
  ·exact q1.elim
theorem O3 (ops:Array Oper):(List.range ops.size).map (fun i=>ops[i]?)=ops.toList.map some:=by
 apply List.ext_getElem?;intro i;simp only [List.getElem?_map];by_cases hi:i < ops.size
 ·rw [List.getElem?_range hi];simp [hi]
 ·rw [ab9 (by simp; omega),ab9 (by simp; omega)];rfl
theorem gY.region {f:FuncId} {id:Nat} {ops:Array Oper} {Q:Exit→St→Prop} {s:St} (h:tX E f ops.toList ops.toList (Q .normal) s):gY E (.region id ops false) Q s:=fun R w β a F hr hf=>by
 refine wpIn_region (CF (R:=R) (w:=w) (β:=β) (s:=s) (K:=Q .normal) (f:=f) ?_ _ _ (O3 ops) R w β s a hr (Step.refl _ _ _ _) rfl hf h);rintro a' w' ⟨s',R',β',h1,h2⟩;exact ⟨s',R',β',h1,h2⟩
end regions
end Go.Am
namespace Go.Am
open Go
def vsl:Nat→List AV→bp
 |_,[]=>[]
 |n,a :: l=>.put n (.v a) :: vsl (n+1) l
def St.init (ntmps:Nat) (args:List AV) (G:List GO):St:=
 ⟨vsl 0 args,[],G,[],none,max ntmps args.length⟩
def tY:List Nat→List GO→Option (List GO)
 |[],G=>some G
 |id :: l,G=>match nth G id with
  |some (.defers true)=>tY l (aE G id (.defers false))
  |_=>none
def Lk (E:Env) (s:St):List ResultVar→Option (List AV)
 |[]=>some []
 |.tmp t :: l=>match lk s.af t,Lk E s l with
  |.v a,some r=>some (a :: r)
  |_,_=>none
 |.cell p t :: l=>match xh E s t (lk s.af p),Lk E s l with
  |some a,some r=>some (a :: r)
  |_,_=>none
def Rc (E:Env) (s:St) (fn:Func):Option AV:=match Lk E s fn.results.toList with
 |some [a]=>some a
 |some l=>some (.bG l)
 |none=>none
def Xr (E:Env) (fn:Func) (Q:AV→List GO→Prop):Exit→St→Prop
 |.normal,s | .ret,s=>match tY s.marks s.G with
  |some G=>match Rc E (s.cj G) fn with
   |some r=>Q r G
   |none=>False
  |none=>False
 |_,_=>False
section fns
variable {E:Env} {R:aj} {w:World} {β:Nat→Nat} {s:St} {a:Act}
def CG (tmps:Array Value):ResultVar→Sem Value
 |.tmp t=>pure (tmps.getD t undef)
 |.cell p t=>do loadVar t (← asAddr (tmps.getD p undef))
theorem CH (fn:Func) (tmps:Array Value):results fn tmps=(do
  let vs ← fn.results.mapM (CG tmps)
  pure (if h:vs.size=1 then vs[0] else .tuple vs)):=by
 unfold results;congr 1
theorem xR (h:bk E R w β s a):∀ {l:List ResultVar} {r:List AV},Lk E s l=some r →
  ∃ vs,(l.mapM (CG a.tmps)).run E.P w=.ok vs w∧aW R w r vs
 |[],r,hl=>by
  simp [Lk] at hl;subst hl;exact ⟨[],by simp,.nil⟩
 |.tmp t :: l,r,hl=>by
  unfold Lk at hl;split at hl
  ·rename_i x r' h1 h2;cases hl;obtain ⟨vs,g1,g2⟩:=xR h h2;obtain ⟨c,k1,k2⟩:=h.t t (by rw [h1]; simp);rw [h1] at k2;have hg:a.tmps.getD t undef=c:=by simp [aa3,k1]
   refine ⟨c :: vs,?_,.cons k2 g2⟩;simp only [List.mapM_cons,aax,aaK,aav,CG,hg,g1]
  ·cases hl
 |.cell p t :: l,r,hl=>by
  unfold Lk at hl;split at hl
  ·rename_i v r' h1 h2
   ·cases hl;obtain ⟨vs,g1,g2⟩:=xR h h2;obtain ⟨c,k1,k2⟩:=h.t p (fun e=>by rw [e] at h1; unfold xh at h1; split at h1 <;> simp_all [rR]);have hg:a.tmps.getD p undef=c:=by simp [aa3,k1]
    unfold xh at h1;split at h1
    ·rename_i i cs off hi hc;split at h1
     ·rename_i l' hs;obtain ⟨b,o',us,e,q1,q2,q3⟩:=Ak h k2 hc;obtain ⟨m1,m2,m3,m4⟩:=xr hs q1 q2;obtain ⟨c',xq,fT⟩:=tG (E:=E) hi (b:=b) (off:=o'+off) m1 m2 m3 (fun j y hy=>by rw [Nat.add_assoc]; exact q3 _ _ (m4 j y hy)) h1;refine ⟨c' :: vs,?_,.cons fT g2⟩;have ha:(asAddr c).run E.P w=.ok ⟨b,o'+off,none⟩ w:=by rw [e]; rfl
      have ahD:(CG a.tmps (.cell p t)).run E.P w=.ok c' w:=by
       simp only [CG,aax,hg,ha,aav,xq]
      simp only [List.mapM_cons,aax,aaK,aav,ahD,g1]
     ·cases h1
    ·cases h1
  ·cases hl
theorem Rd (h:bk E R w β s a) {fn:Func} {r:AV} (hr:Rc E s fn=some r):∃ c,(results fn a.tmps).run E.P w=.ok c w∧Rel R w r c:=by
 unfold Rc at hr;split at hr
 ·rename_i x hl;cases hr;obtain ⟨vs,g1,g2⟩:=xR h hl;cases g2 with
  | @cons _ c _ _ g2 g3=>
  cases g3;refine ⟨c,?_,g2⟩;rw [CH,aa6];simp only [aax,Sem.run_map];rw [g1];simp
 ·rename_i l du hl;cases hr;obtain ⟨vs,g1,g2⟩:=xR h hl;refine ⟨.tuple ⟨vs⟩,?_,.bG g2⟩;have hlen:vs.length≠1:=by
   rw [← g2.length];intro e
   match l,e with
   |[x],_=>exact du x rfl
  rw [CH,aa6];simp only [aax,Sem.run_map];rw [g1];simp [hlen]
 ·cases hr
theorem O4 (fn:Func) (Q:Ending→World→Prop):∀ {marks:List Nat} {G G':List GO} {R:aj} {w:World} {β:Nat→Nat} {s:St} {a:Act},bk E R w β (s.cj G) a→vB R marks a.defers→tY marks G=some G' →
  (∀ w' ,bk E R w' β (s.cj G') a→Step R w β s.boxes R w' β s.boxes→∃ v,(results fn a.tmps).run E.P w'=.ok v w'∧Q (.returned v) w')→LeavesInM aau 0 E.P fn a.tmps Q a.defers .returning w:=by
 intro marks;have key:∀ (marks:List Nat) (ds:List Deferred) (G G':List GO) (R:aj) (w:World) (β:Nat→Nat) (s:St) (a:Act),bk E R w β (s.cj G) a→vB R marks ds→tY marks G=some G' →
   (∀ w' ,bk E R w' β (s.cj G') a→Step R w β s.boxes R w' β s.boxes→∃ v,(results fn a.tmps).run E.P w'=.ok v w'∧Q (.returned v) w')→LeavesInM aau 0 E.P fn a.tmps Q ds .returning w:=by
  intro marks
  induction marks with
  |nil=>
   intro ds G G' R w β s a hr hd hl hq;cases ds with
   |cons _ _=>exact hd.elim
   |nil=>
    simp [tY] at hl;subst hl;obtain ⟨v,h1,h2⟩:=hq w hr (Step.refl _ _ _ _);exact ⟨v,h1,h2⟩
  |cons id marks ih=>
   intro ds G G' R w β s a hr hd hl hq;cases ds with
   |nil=>exact hd.elim
   |cons d ds=>
    obtain ⟨⟨b,hb,rfl⟩,hd⟩:=hd;unfold tY at hl;split at hl
    ·rename_i hg;have Ll:w.heap[b]?=some (.deferred (some [])):=hr.g.obj id _ _ hg hb;have cI:=bE Ll;have QO:(acz b).run E.P w=.ok [] (World.put w b (.deferred none)):=by
      simp only [acz,getObj,setObj,aax,Sem.run,Ll,aav,aaK];rfl
     obtain ⟨q1,q2⟩:=hr.setObj (s:=s.cj G) (x':=.deferred none) (go':=.defers false) hb Ll trivial trivial (fun _ e=>by cases e) (jT w b _ cI);refine ⟨by simp,.inl ⟨b,_,rfl,QO,?_⟩⟩;refine ih ds (aE G id (.defers false)) G' R _ β s a q1 hd hl (fun w' nD ks=>?_);exact hq w' nD (q2.trans ks)
    ·cases hl
 intro G G' R w β s a hr hd hl hq;exact key marks a.defers G G' R w β s a hr hd hl hq
end fns
end Go.Am
namespace Go.Am
open Go
section intro
variable {E:Env} {R R':aj} {w w':World} {β β':Nat→Nat}
theorem CI {bx MH:dy} (h:Step R w β bx R' w' β' MH) (hn:∀ k cs,eJ bx k≠some cs):Step R w (fun _=>0) jG R' w' (fun _=>0) jG:=by
 have own:∀ b,Own R β bx b→Live R b:=fun b ho=>by
  rcases ho with ho|⟨k,cs,hk,_⟩
  ·exact ho
  ·exact absurd hk (hn k cs)
 exact ⟨h.ext,h.os,h.tape,h.output,h.size,fun b hb wy=>h.bh b hb (fun ho=>wy (.inl (own b ho))),fun b hb ho=>.inl (own b (h.own b hb (.inl (iF ho)))),fun b o hi hb wy=>h.im b o hi hb (fun ho=>wy (.inl (own b ho)))⟩
theorem Re:∀ {l:List AV} {n i:Nat},(i < n∨n+l.length≤i→lk (vsl n l) i=.none)∧(∀ a,l[i - n]?=some a→n≤i→lk (vsl n l) i=.v a)
 |[],n,i=>⟨fun _=>rfl,fun a h=>by simp at h⟩
 |b :: l,n,i=>by
  obtain ⟨h1,h2⟩:=Re (l:=l) (n:=n+1) (i:=i);refine ⟨fun h=>?_,fun a h hn=>?_⟩
  ·simp only [List.length_cons] at h;simp only [vsl];rw [aX (by omega)];exact h1 (by omega)
  ·simp only [vsl];by_cases e:n=i
   ·subst e;rw [aG];simp at h;rw [h]
   ·rw [aX e];refine h2 a ?_ (by omega);have:i - n=(i - (n+1))+1:=by omega
    rw [this] at h;simpa using h
theorem Rf {ntmps:Nat} {args:List AV} {cs:List Value} {G:List GO} (hg:gG E R w G) (hl:aW R w args cs) :
  bk E R w (fun _=>0) (St.init ntmps args G) { tmps:=⟨cs⟩++Array.replicate (ntmps - (⟨cs⟩:Array Value).size) undef,defers:=[] }:=by
 have hlen:=hl.length;refine ⟨hg,⟨fun k c hk=>?_,fun k k' c c' hk _ _=>?_⟩,fun i hi=>?_,?_,trivial⟩
 ·simp [St.init,eJ] at hk
 ·simp [St.init,eJ] at hk
 ·simp only [St.init] at hi ⊢;obtain ⟨h1,h2⟩:=Re (l:=args) (n:=0) (i:=i);by_cases cI:i < args.length
  ·have hy:args[i]?=some args[i]:=List.getElem?_eq_getElem cI;obtain ⟨c,k1,k2⟩:=hl.get hy;rw [h2 _ (by rw [Nat.sub_zero]; exact hy) (Nat.zero_le _)];refine ⟨c,?_,k2⟩;rw [Array.getElem?_append_left (by simp; omega)];simpa using k1
  ·exact absurd (h1 (by omega)) hi
 ·simp [St.init];omega
theorem Lm {ntmps:Nat} {args:List AV} {G:List GO} (k:Nat) (cs:List AV):eJ (St.init ntmps args G).boxes k≠some cs:=by
 simp [St.init,eJ]
theorem dT.intro {g : FuncId} {fn : Func} {c : Code} {args : List AV} {G : List GO} {Q : AV → List GO → Prop} (hf : E.P.funcs[g]? = some fn) (hb : fn.body = some c) (hn : (fn.name == "runtime.NumGoroutine") = false)
  (h:gY E c (Xr E fn Q) (St.init fn.ntmps args G)):dT E g args G Q:=by
 refine ⟨⟨fn,hf,by simp [hb],hn⟩,fun R w cs hg hl=>?_⟩;refine callsIn_of_wp_marks hf hb trivial (wpIn_mono (h R w (fun _=>0) _ aau (Rf hg hl) rfl) ?_);rintro e a' w' ⟨s',R',β',hq,hr,ks,bD⟩;have fin:(match tY s'.marks s'.G with
  |some G=>match Rc E (s'.cj G) fn with
   |some r=>Q r G
   |none=>False
  |none=>False)→LeavesInM aau 0 E.P fn a'.tmps (Ft E R w Q) a'.defers .returning w':=by
  intro hq;split at hq
  ·rename_i G2 hG2;split at hq
   ·rename_i r GW;refine O4 fn (Ft E R w Q) (s:=s') (G:=s'.G) hr hr.d hG2 (fun Us CE vN=>?_);obtain ⟨v,h1,h2⟩:=Rd CE GW;exact ⟨v,h1,r,G2,R',hq,h2,CE.g,CI (ks.trans vN) Lm⟩
   ·exact hq.elim
  ·exact hq.elim
 cases e with
 |normal=>exact fin hq
 |ret=>exact fin hq
 |exit _=>exact hq.elim
 |goto _=>exact hq.elim
 |panic _=>exact hq.elim
 |outgrown=>exact hq.elim
end intro
end Go.Am
