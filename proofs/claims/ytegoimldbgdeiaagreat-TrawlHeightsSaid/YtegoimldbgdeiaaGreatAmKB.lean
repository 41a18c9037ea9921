/- The abstract machine: what it does is what the model does: slices that are built and cut. -/
import Derived.Test.YtegoimldbgdeiaaGreatAmKA
import Derived.IntWalk
import Derived.Lib.AppendStr
set_option linter.all false
open Array renaming getElem?_toList->ab7, length_toList->ab9, range->adx, toList_append->adF, size_append->adT, ext'->afC
open Bool renaming and_eq_true->aag
open Go.Builtin renaming zeroCells->aaS, append_->abC, len_->aci, min2->aet, lenOf->afI, firstCells->af0
open Go.Instr renaming buildSlice->adf, sureAddr->ad4, sliceAt->ad8, sliceBound->aek, makeSlice->aeQ, slice->afy
open Go.Op renaming bytesLess->afW
open Go.Result renaming andThen_ok->aaJ
open Go.Sem renaming run_bind->aba, run_pure->ab6
open List renaming length_append->aaL, getElem?_eq_getElem->aaN, replicate->aa5, getElem?_append_left->abN, mem_of_mem_take->ab3, getElem?_take->ab5, length_cons->aca, mem_of_mem_drop->acd, length_nil->acf, length_take->acg, append_assoc->acq, size_toArray->acu, getElem?_eq_some_iff->acJ, eq_nil_of_length_eq_zero->acK, length_drop->acL, getElem?_append_right->acN, drop_of_length_le->acO, mem_append->acV, getElem?_toArray->adl, length_replicate->adm, toList_toArray->ady, nil_append->adO, getElem?_eq_none->adU, take_left'->adY, length_set->ad3, getElem?_drop->ad6, ext_getElem?->ad9, mem_or_eq_of_mem_set->aed, drop_append->aee, foldlM_cons->aes, append_nil->aeu, take_of_length_le->aeT, take_zero->afz, singleton_append->afB, mem_cons->afF, replicate_succ->afJ, take_replicate->afM
open List.cons renaming inj->adn
open Nat renaming eq_of_beq_eq_true->aad, le_refl->aaK, mul_le_mul_right->aaR, add_mul->abk, zero_add->ab1, zero_mul->acM, succ_mul->acP, le_of_ble_eq_true->acW, add_sub_cancel_left->adh, le_mul_of_pos_right->adi, le_succ_of_le->adk, le_trans->adR, add_assoc->ad7, mul_eq_zero->aeJ, add_zero->afY, sub_self->afZ
open Ne renaming symm->adj
open Option renaming map_none->adP, map_some->aeH
open Option.some renaming injEq->agd
namespace Go.Am
open Go
variable {R R':ak}{w w':World}{E:Env}{β:Nat->Nat}{s s' s0 s1 s2:St}{a:Act}{o:Oper}{t u el e:TypeId}{id j i f elem sz esz b eb n off g c Mk kY wI:Nat}{x y z v:AV}{ys es l row' es' cs r:List AV}{cx cy:Value}{args:Array Operand}{P:Program}{cur xn:Array Value}{k k':IntKind}{ag:Bool}{α:Type}{us vs:List Value}{rows:List (List AV)}{tys:Array TypeId}{ie:TypeInfo}{r0 r1 ro:RO}{G G':List GO}{fs:List Nat}{k2:LK}{ts:List TR}{t0 t1:TR}{Te:GO}{d:Option Tmp}{x':SV}
def eT (l r:List AV):aH (l++r)=aH l++aH r:=by
 induction l with
 |nil=>rfl
 |cons e l ih=>simp [aH,ih]
def kz (h:jX sz es):(aH es).length=es.length*sz:=by
 induction es with
 |nil=>simp [aH]
 |cons e es ih=>
  have h1:=(h e (by simp)).1;have:=ih (λ x hx=>h x (by simp [hx]));simp only [aH,aaL,this,h1,aca,abk];omega
section rel
def oR {b sz:Nat}:∀ {es:List AV} {o:Nat},jX sz es->jG R w b o (aH es)->lK R w b o sz es
 |[],_,_,_=>.nil
 |e::es,o,h,hc=>by
  obtain ⟨h1,h2,h3⟩:=h e (by simp);obtain ⟨vs,k1,k2,k3,k4⟩:=hc.get;have hd:=hc.drop sz;have ajs:(aH (e::es)).drop sz=aH es:=by simp only [aH]; rw [<- h1,List.drop_left]
  have TS:(aH (e::es)).take sz=e.cells:=by simp only [aH]; rw [<- h1,List.take_left]
  rw [ajs] at hd;refine .cons h1 h2 h3 ?_ (oR (λ x hx=>h x (by simp [hx])) hd);have kt:=k1.take sz;rw [TS] at kt;refine .make kt (λ v hv=>k2 v (ab3 hv)) (λ j v hv=>k3 j v ?_) (λ j hj=>k4 j ?_)
  .rw [ab5] at hv;split at hv
   .exact hv
   .cases hv
  .simp only [aH,aaL];omega
def Dl {b sz:Nat}:∀ {es:List AV} {o:Nat},lK R w b o sz es->jX sz es/\∃ vs,bj R w (aH es) vs/\(∀ v∈vs,v.oneCell'=true)/\(∀ j v,vs[j]?=some v->w.cell? ⟨b,o+j,none⟩=some v)/\∀ j,j < es.length*sz->R.I b (o+j)
 |[],o,_=>⟨λ e he=>by simp at he,[],.nil,by simp,by simp,by simp⟩
 |e::es,o,h=>by
  cases h with
  |cons hl ht hk hc t=>
   obtain ⟨g0,vs,g1,g2,g3,g4⟩:=Dl t;obtain ⟨us,f1,f2,f3,f4⟩:=hc.get;have hlen:us.length=sz:=by rw [<- f1.length,hl]
   refine ⟨λ x hx=>?_,us++vs,f1.append g1,λ v hv=>?_,λ j v hv=>?_,λ j hj=>?_⟩
   .rcases afF.1 hx with rfl|hx
    .exact ⟨hl,ht,hk⟩
    .exact g0 x hx
   .rcases acV.1 hv with hv|hv
    .exact f2 v hv
    .exact g2 v hv
   .by_cases hj:j < sz
    .rw [abN (by omega)] at hv;exact f3 j v hv
    .rw [acN (by omega),hlen] at hv;have:=g3 _ v hv;rwa [show o+sz+(j - sz)=o+j by omega] at this
   .by_cases Mj:j < sz
    .exact f4 j (by omega)
    .have:=g4 (j - sz) (by simp only [aca,abk] at hj; omega);rwa [show o+sz+(j - sz)=o+j by omega] at this
def AH {b sz:Nat}:∀ (n:Nat) {es:List AV} {o:Nat},lK R w b o sz es->lK R w b (o+n*sz) sz (es.drop n)
 |0,es,o,h=>by simpa using h
 |n+1,[],o,h=>by simpa using lK.nil
 |n+1,e::es,o,h=>by
  cases h with
  |cons hl ht hk hc t=>
   have:=AH n t;rw [show o+sz+n*sz=o+(n+1)*sz by rw [abk]; omega] at this;simpa using this
def AI {b sz:Nat}:∀ (n:Nat) {es:List AV} {o:Nat},lK R w b o sz es->lK R w b o sz (es.take n)
 |0,es,o,h=>by simpa using lK.nil
 |n+1,[],o,h=>by simpa using lK.nil
 |n+1,e::es,o,h=>by
  cases h with
  |cons hl ht hk hc t=>simpa using lK.cons hl ht hk hc (AI n t)
end rel
def jO (h1:z.cells.length=sz) (h2:z.bN=true) (h3:z.closed=true):jX sz (aa5 n z):=λ e he=>by
 rw [List.mem_replicate] at he;rw [he.2];exact ⟨h1,h2,h3⟩
def Dm {sz:Nat}:∀ {es:List AV} {i:Nat} {v:AV},jX sz es->i < es.length->v.cells.length=sz->aH (aC es i v)=jL (aH es) (i*sz) v.cells
 |[],i,v,_,h,_=>by simp at h
 |e::es,0,v,h,_,hv=>by
  have h1:=(h e (by simp)).1;simp only [aC,aH,acM];rw [mz _ 0 _ (by simp; omega)];simp only [afz,adO,ab1];rw [hv,<- h1,List.drop_left]
 |e::es,i+1,v,h,hi,hv=>by
  have h1:=(h e (by simp)).1;have FK:jX sz es:=λ x hx=>h x (by simp [hx])
  have ih:=Dm (i:=i) (v:=v) FK (by simpa using hi) hv;have du:i < es.length:=by simpa using hi
  have hle:i*sz+sz<=es.length*sz:=by rw [<- acP]; exact aaR _ du
  have hl:=kz FK;simp only [aC,aH];have e1:(i+1)*sz=e.cells.length+i*sz:=by rw [h1,acP]; omega
  have e2:List.take (e.cells.length+i*sz) e.cells=e.cells:=aeT (by omega);rw [ih,mz _ _ _ (by omega),e1,mz _ _ _ (by simp only [aaL]; omega)];rw [List.take_append,e2,ad7,aee,acO (by omega:e.cells.length<=e.cells.length+(i*sz+v.cells.length))];simp [adh]
def GG {i:Nat} (h:jX sz es) (h1:v.cells.length=sz) (h2:v.bN=true) (h3:v.closed=true):jX sz (aC es i v):=λ e he=>by
 rw [eY] at he;rcases aed he with he|rfl
 .exact h e he
 .exact ⟨h1,h2,h3⟩
def By {sz:Nat}:∀ {ps:List (Nat×AV)} {es es':List AV},JJ sz es ps=some es'->jX sz es ->
  Bv (λ i=>some (i*sz,sz)) (aH es) ps=some (aH es')/\jX sz es'/\es'.length=es.length
 |[],es,es',h,hk=>by simp [JJ] at h; subst h; exact ⟨rfl,hk,rfl⟩
 |(i,v)::ps,es,es',h,hk=>by
  unfold JJ at h;split at h
  .rename_i hc;simp only [aag] at hc;obtain ⟨⟨⟨hn,hl⟩,hi⟩,hk0⟩:=hc;have hl':=aad hl;have wC:=acW hi;obtain ⟨g1,g2,g3⟩:=By h (GG hk hl' hn hk0);refine ⟨?_,g2,by simpa using g3⟩;unfold Bv;have hle:Nat.ble (i*sz+sz) (aH es).length=true:=by
    apply Nat.ble_eq_true_of_le;rw [kz hk,<- acP];exact aaR _ wC
   simp only [hn,hl,hle,Bool.and_self,if_true];rw [<- Dm hk (by omega) hl'];exact g1
  .cases h
section ops
def ak.imm (R:ak) (b:Nat):ak:=⟨λ b' o=>R.I b' o\/b'=b,R.obj⟩
def HX (wf:∀ b o,R.I b o->b < w.heap.size) (x:Obj):Ext R w (R.imm w.heap.size) (w.alloc x):=
 ⟨λ _ _ h=>.inl h,λ b o h=>dv (heap_alloc_old w x b (wf b o h)) o,λ _ ro h=>⟨ro,h,dy.refl ro⟩,.old λ b hb=>heap_alloc_old w x b hb⟩
def bG.imm (h:bG E R w β s a) (x:Obj):bG E (R.imm w.heap.size) (w.alloc x) β s a:=
 h.keep (HX h.g.wf x) rfl (λ b hb=>heap_alloc_old w x b (h.gF hb)) (λ b o hb hi=>by
  rcases hi with hi|hi
  .exact hi
  .have:=h.gF hb;omega) (λ b o hi=>by
  rcases hi with hi|hi
  .have:=h.g.wf b o hi;simp;omega
  .simp;omega)
def TT (h:bG E R w β s a) (x:Obj):Step R w β s.boxes (R.imm w.heap.size) (w.alloc x) β s.boxes:=
 ⟨HX h.g.wf x,rfl,rfl,rfl,by simp,λ b hb _=>heap_alloc_old w x b hb,λ _ _ ho=>ho,λ b o hi hb _=>by
  rcases hi with hi|hi
  .exact hi
  .omega⟩
def yD (z:Array Value):∀ (n:Nat),(((adx (n*z.size)).map λ i=>z[i % z.size]!)).toList=(aa5 n z.toList).flatten
 |0=>by simp
 |n+1=>by
  have ih:=yD z n;simp only [Array.toList_map,Array.toList_range] at ih ⊢;rw [abk,Nat.one_mul,List.range_add,List.map_append,ih,List.replicate_succ',List.flatten_append];congr 1;simp only [List.map_map,List.flatten_cons,List.flatten_nil,aeu];apply ad9;intro i;by_cases hi:i < z.size
  .simp only [List.getElem?_map,List.getElem?_range hi,aeH,Function.comp_apply];rw [Nat.mul_comm n,Nat.mul_add_mod,Nat.mod_eq_of_lt hi];simp [hi]
  .rw [adU (by simp; omega),adU (by simp; omega)]
def vD {z:AV} {c:Value} (hr:Rel R w z c) (hn:z.bN=true):∀ (n:Nat),bj R w (aH (aa5 n z)) (aa5 n c.cells.toList).flatten/\∀ v∈(aa5 n c.cells.toList).flatten,v.oneCell'=true
 |0=>by simp [aH]; exact .nil
 |n+1=>by
  obtain ⟨c1,c2⟩:=Rel.cells hr hn;obtain ⟨h1,h2⟩:=vD hr hn n;refine ⟨?_,λ v hv=>?_⟩
  .simpa [afJ,aH] using c1.append h1
  .simp only [afJ,List.flatten_cons,acV] at hv;rcases hv with hv|hv
   .exact c2 v hv
   .exact h2 v hv
def AJ:∀ {ps:List (Nat×AV)} {us:List Value},bj R w (ps.map (·.2)) us->bj R w ((Gs ps).map (·.2)) us
 |[],_,h=>h
 |(_,_)::_,_,.cons h t=>.cons h.kj (AJ t)
def AK:∀ (ps:List (Nat×AV)),(Gs ps).map (·.1)=ps.map (·.1)
 |[]=>rfl
 |(i,v)::l=>by simp [Gs,AK l]
def pg (h:bG E R w β s a) (t:TypeId) (len:Nat) (parts:Array (Nat×Operand)) (ho:o.op=.buildSlice t len parts) (hv:dW E s t len parts.toList=some v) :
  ∃ es esz us elem,v=.list .full esz es/\(execOp a.eval o).run E.P w=.ok (.value (.slice (some ⟨w.heap.size,0,none⟩) len len)) (w.alloc (.cells ⟨us⟩ elem))/\jX esz es/\es.length=len/\bj R w (aH es) us/\(∀ x∈us,x.oneCell'=true)/\∃ i ag wI z,E.ti t=some i/\i.k=.sl elem esz ag wI z:=by
 unfold dW at hv;split at hv
 .rename_i i ps hi Td;split at hv
  .rename_i elem esz ag wI z hk;split at hv
   .rename_i hc;simp only [aag] at hc;obtain ⟨⟨⟨⟨Jz,Xy⟩,hz3⟩,hz4⟩,hz5⟩:=hc;have Jz:=aad Jz;have Xy:=acW Xy;have hz3:=acW hz3;split at hv
    .rename_i es FK;cases hv;obtain ⟨lR,u,e1,e2,e3,e4,e5,e6⟩:=fu E hi;rw [hk] at e5;obtain ⟨ie,ue,rfl,f1,f2,f3,f4,f5,f6⟩:=iS e5;obtain ⟨zc,yg,MS⟩:=fG f6;have hzR:=MS R w;obtain ⟨c1,c2⟩:=Rel.cells hzR hz4;have xm:zc.cells.size=esz:=by rw [<- Jz,c1.length]; simp
     obtain ⟨p1,p2⟩:=CK h Td;obtain ⟨z1,z2⟩:=vD hzR hz4 len;obtain ⟨g1,g2,g3⟩:=By FK (jO Jz hz4 hz5);obtain ⟨us,u1,u2,u3⟩:=uz (R:=R) (w:=w) _ (AJ p1) ((AK ps).trans p2) z1 z2 g1;have epm:(parts.map λ (x:Nat×Operand)=>(x.1,a.eval x.2)).toList=parts.toList.map λ x=>(x.1,a.eval x.2):=by simp
     have qU:((adx (len*esz)).map λ i=>zc.cells[i % zc.cells.size]!)=⟨(aa5 len zc.cells.toList).flatten⟩:=by
      apply afC;rw [<- xm];exact yD zc.cells len
     have hlen:es.length=len:=by simpa using g3
     have cP:(adf t len (parts.map λ (x:Nat×Operand)=>(x.1,a.eval x.2))).run E.P w=.ok (.slice (some ⟨w.heap.size,0,none⟩) len len) (w.alloc (.cells ⟨us⟩ elem)):=by
      have jB:¬ len*esz > 2 ^ 24:=by omega
      by_cases h0:len*esz=0
      .have CL:len=0:=by
        rcases aeJ.1 h0 with h0|h0 <;> omega
       subst CL;have u1':Instr.fill (λ i=>some (i*esz,esz)) #[] (parts.toList.map λ x=>(x.1,a.eval x.2))=some ⟨us⟩:=by simpa using u1
       simp only [adf,aba,run_underlying e2,aaJ,run_sizeOf w f1,f2];simp only [acM,gt_iff_lt,Nat.not_lt_zero,if_false,if_true,aba,ab6,aaJ,epm];have JV:∀ f:Nat->Value,Array.map f (adx 0)=#[]:=λ f=>by simp
       simp only [JV,u1',newRow,aba,run_newObj,aaJ,ab6];rfl
      .simp only [adf,aba,run_underlying e2,aaJ,run_sizeOf w f1,f2];rw [if_neg jB,if_neg h0];simp only [aba,ab6,aaJ,mY w f1 yg,epm,qU,u1,newRow,run_newObj];rfl
     exact ⟨es,esz,us,elem,rfl,by simp only [execOp,ho,aba,cP,aaJ,ab6],g2,hlen,u2,u3,i,ag,wI,_,hi,hk⟩
    .cases hv
   .cases hv
  .cases hv
 .cases hv
def Ce (h:bG E R w β s a) (t:TypeId) (len:Nat) (parts:Array (Nat×Operand)) (ho:o.op=.buildSlice t len parts) (hv:ox E s t len parts.toList=some cs) :
  ∃ esz us elem,(execOp a.eval o).run E.P w=.ok (.value (.slice (some ⟨w.heap.size,0,none⟩) len len)) (w.alloc (.cells ⟨us⟩ elem))/\bj R w cs us/\(∀ x∈us,x.oneCell'=true)/\∃ i ag wI z,E.ti t=some i/\i.k=.sl elem esz ag wI z:=by
 unfold ox at hv;split at hv
 .rename_i i ps hi Td;split at hv
  .rename_i elem esz ag wI z hk;split at hv
   .rename_i hc;simp only [aag] at hc;obtain ⟨⟨⟨Jz,Xy⟩,hz3⟩,hz4⟩:=hc;have Jz:=aad Jz;have Xy:=acW Xy;have hz3:=acW hz3
    .have g1:=hv;obtain ⟨lR,u,e1,e2,e3,e4,e5,e6⟩:=fu E hi;rw [hk] at e5;obtain ⟨ie,ue,rfl,f1,f2,f3,f4,f5,f6⟩:=iS e5;obtain ⟨zc,yg,MS⟩:=fG f6;have hzR:=MS R w;obtain ⟨c1,c2⟩:=Rel.cells hzR hz4;have xm:zc.cells.size=esz:=by rw [<- Jz,c1.length]; simp
     obtain ⟨p1,p2⟩:=CK h Td;obtain ⟨z1,z2⟩:=vD hzR hz4 len;obtain ⟨us,u1,u2,u3⟩:=uz (R:=R) (w:=w) _ (AJ p1) ((AK ps).trans p2) z1 z2 g1;have epm:(parts.map λ (x:Nat×Operand)=>(x.1,a.eval x.2)).toList=parts.toList.map λ x=>(x.1,a.eval x.2):=by simp
     have qU:((adx (len*esz)).map λ i=>zc.cells[i % zc.cells.size]!)=⟨(aa5 len zc.cells.toList).flatten⟩:=by
      apply afC;rw [<- xm];exact yD zc.cells len
     have cP:(adf t len (parts.map λ (x:Nat×Operand)=>(x.1,a.eval x.2))).run E.P w=.ok (.slice (some ⟨w.heap.size,0,none⟩) len len) (w.alloc (.cells ⟨us⟩ elem)):=by
      have jB:¬ len*esz > 2 ^ 24:=by omega
      by_cases h0:len*esz=0
      .have CL:len=0:=by
        rcases aeJ.1 h0 with h0|h0 <;> omega
       subst CL;have u1':Instr.fill (λ i=>some (i*esz,esz)) #[] (parts.toList.map λ x=>(x.1,a.eval x.2))=some ⟨us⟩:=by simpa using u1
       simp only [adf,aba,run_underlying e2,aaJ,run_sizeOf w f1,f2];simp only [acM,gt_iff_lt,Nat.not_lt_zero,if_false,if_true,aba,ab6,aaJ,epm];have JV:∀ f:Nat->Value,Array.map f (adx 0)=#[]:=λ f=>by simp
       simp only [JV,u1',newRow,aba,run_newObj,aaJ,ab6];rfl
      .simp only [adf,aba,run_underlying e2,aaJ,run_sizeOf w f1,f2];rw [if_neg jB,if_neg h0];simp only [aba,ab6,aaJ,mY w f1 yg,epm,qU,u1,newRow,run_newObj];rfl
     exact ⟨esz,us,elem,by simp only [execOp,ho,aba,cP,aaJ,ab6],u2,u3,i,ag,wI,_,hi,hk⟩
   .cases hv
  .cases hv
 .cases hv
def Cf (h:bG E R w β s a) (t:TypeId) (len:Nat) (parts:Array (Nat×Operand)) (ho:o.op=.buildSlice t len parts) (hv:dW E s t len parts.toList=some v) :
  c8 E R w β s a o (s.put o.dst (.v v)):=by
 obtain ⟨es,esz,us,elem,rfl,cP,g2,hlen,u2,u3,_⟩:=pg h t len parts ho hv;have e:=HX (R:=R) (w:=w) h.g.wf (.cells ⟨us⟩ elem);refine ⟨_,.slice (some ⟨w.heap.size,0,none⟩) len len,_,R.imm w.heap.size,β,cP,.inl rfl,(h.imm (.cells ⟨us⟩ elem)).put o.dst ?_,by rw [bQ]; exact TT h _⟩;refine Rel.list (oR g2 (jG.make (u2.mono e) u3 (λ j x hx=>?_) (λ j _=>.inr rfl))) hlen.symm (aaK _) rfl;rw [uy (heap_alloc_new w _)];simpa using hx
def AL (h:bG E R w β s a) (t:TypeId) (len:Nat) (parts:Array (Nat×Operand)) (ho:o.op=.buildSlice t len parts) (hv:ox E s t len parts.toList=some cs) {i:TI} (hi:E.ti t=some i) {el:TypeId} {esz eb:Nat} {z:Option AV} (hk:i.k=.sl el esz ag eb z) :
  c8 E R w β s a o ((s.gj (.row cs el)).put o.dst (.v (.tP s.G.length 0 esz len len))):=by
 obtain ⟨ajw,us,elem,cP,u2,u3,i',ag',by',z',wC,mr⟩:=Ce h t len parts ho hv;rw [hi] at wC;cases wC;rw [hk] at mr;cases mr;have e:=kI (R:=R) (w:=w) h.g.wf (.cells ⟨us⟩ el) (.cN w.heap.size);have kx:ku (R.add (.cN w.heap.size)) (w.alloc (.cells ⟨us⟩ el)) (.row cs el) (.cN w.heap.size):=
  ⟨_,heap_alloc_new w _,u2.mono e,u3,λ o' hi=>by have:=h.g.wf _ _ hi; omega⟩
 exact ⟨_,_,_,R.add (.cN w.heap.size),β,cP,.inl rfl,(h.qT _ _ _ (by exact λ _ h=>h) kx).put o.dst (x:=.v (.tP s.G.length 0 esz len len)) (Rel.tP (kJ h _) (aaK _)),by rw [bQ]; exact fI h _ _ (by exact λ _ h=>h)⟩
def AM (h:bG E R w β s a) (t:TypeId) (len:Nat) (parts:Array (Nat×Operand)) (ho:o.op=.buildSlice t len parts) {k:LK} {esz:Nat} (hv:dW E s t len parts.toList=some (.list k esz es)) {i:TI} (hi:E.ti t=some i) {el:TypeId} {cr eb:Nat} {z:Option AV} (hk:i.k=.sl el cr ag eb z) :
  c8 E R w β s a o ((s.gj (.row (aH es) el)).put o.dst (.v (.tP s.G.length 0 esz len len))):=by
 obtain ⟨es',ajw,us,elem,hve,cP,g2,hlen,u2,u3,i',ag',by',z',wC,mr⟩:=pg h t len parts ho hv;cases hve;rw [hi] at wC;cases wC;rw [hk] at mr;cases mr;have e:=kI (R:=R) (w:=w) h.g.wf (.cells ⟨us⟩ el) (.cN w.heap.size);have kx:ku (R.add (.cN w.heap.size)) (w.alloc (.cells ⟨us⟩ el)) (.row (aH es) el) (.cN w.heap.size):=
  ⟨_,heap_alloc_new w _,u2.mono e,u3,λ o' hi=>by have:=h.g.wf _ _ hi; omega⟩
 exact ⟨_,_,_,R.add (.cN w.heap.size),β,cP,.inl rfl,(h.qT _ _ _ (by exact λ _ h=>h) kx).put o.dst (x:=.v (.tP s.G.length 0 esz len len)) (Rel.tP (kJ h _) (aaK _)),by rw [bQ]; exact fI h _ _ (by exact λ _ h=>h)⟩
end ops
section ops
def adV (R:ak) (w:World) (β:Nat->Nat):Option SV->Option Value->Prop
 |none,none=>True
 |some x,some c=>sR R w β x c
 |_,_=>False
def GH {y y' n:Nat} {x:SV} {c:Value} (hx:sR R w β x c) (hb:C8 y x=some (true,n)) (hy:y<=y') (code:BoundsCode) :
  (aek c y' code).run E.P w=.ok n w/\n<=y:=by
 unfold C8 at hb;split at hb
 .rename_i k m;obtain ⟨h1,rfl⟩:=cL hb;obtain ⟨h0,h3⟩:=of_decide_eq_true h1;have Al:Rel R w (.int k m) c:=hx;cases Al;exact ⟨run_sliceBound (P:=E.P) w k m y' code h0 (by omega),by omega⟩
 .cases hb
def sW (HY:Bool) {len cap l h:Nat} (TQ:len<=cap) {lo hi:Option SV} {lv hv:Option Value} (hl:adV R w β lo lv) (hh:adV R w β hi hv) (hb:QU len lo hi=some (true,l,h)) :
  (Instr.sliceBounds HY len cap lv hv none).run E.P w=.ok (l,h,cap) w/\l<=h/\h<=len:=by
 unfold QU at hb;split at hb
 .cases hb
 .rename_i c1 h' ph;split at hb
  .cases hb
  .rename_i c2 l' adW;injection hb with hb;injection hb with hc hb;injection hb with e1 e2;subst e1; subst e2;simp only [aag] at hc;obtain ⟨rfl,rfl⟩:=hc;have H:∃ _:True,(match hv with | some v=>aek v cap (if HY=true then .sliceAcap else .sliceAlen) | none=>pure len).run E.P w=.ok h' w/\h'<=len:=by
    refine ⟨trivial,?_⟩;cases hi with
    |none=>cases hv with
     |none=>simp at ph; subst ph; exact ⟨rfl,aaK _⟩
     |some v=>exact hh.elim
    |some x=>cases hv with
     |none=>exact hh.elim
     |some v=>exact GH (E:=E) hh ph TQ _
   have L:∃ _:True,(match lv with | some v=>aek v h' .sliceB | none=>pure 0).run E.P w=.ok l' w/\l'<=h':=by
    refine ⟨trivial,?_⟩;cases lo with
    |none=>cases lv with
     |none=>simp at adW; subst adW; exact ⟨rfl,Nat.zero_le _⟩
     |some v=>exact hl.elim
    |some x=>cases lv with
     |none=>exact hl.elim
     |some v=>exact GH (E:=E) hl adW (aaK _) _
   obtain ⟨_,H1,H2⟩:=H;obtain ⟨_,L1,L2⟩:=L;refine ⟨?_,L2,H2⟩;cases hv <;> cases lv <;> simp_all [Instr.sliceBounds]
def yF (h:bG E R w β s a) {x:Option Operand} {y:Option SV} (hx:qp E s.ae x=some y):adV R w β y (x.map a.eval):=by
 cases x with
 |none=>simp [qp] at hx; subst hx; trivial
 |some x=>simp [qp] at hx; subst hx; exact bi h x
def uC {l:List α} {lo hi:Nat} (h:hi<=l.length):(Az lo hi l).length=hi - lo:=by
 simp [Az];omega
def MT (h:bG E R w β s a) (t:TypeId) (x:Operand) (lo hi:Option Operand) (ho:o.op=.slice t x lo hi none) {l h':Option SV} (hl:qp E s.ae lo=some l) (hh:qp E s.ae hi=some h') (hv:HP E t (cK E s.ae x) l h' none=some (true,v)) :
  c8 E R w β s a o (s.put o.dst (.v v)):=by
 have rx:=bi h x;have rl:=yF h hl;have rh:=yF h hh;unfold HP at hv;split at hv
 .rename_i i wC hmx;obtain ⟨lR,u,e1,e2,e3,e4,e5,e6⟩:=fu E wC;split at hv
  .rename_i elem esz ag wI z k sz es hk hx;rw [hx] at rx;rw [hk] at e5;obtain ⟨ie,ue,rfl,f1,f2,f3,f4,f5,f6⟩:=iS e5;split at hv
   .rename_i iJ;split at hv
    .rename_i c p q hb;obtain ⟨rfl,rfl⟩:=cL hv;have gu:Rel R w (.list k sz es) (a.eval x):=rx;generalize kR:a.eval x=xv at gu;cases gu with
     | @list _ _ _ b o' len cap hr hlen lS MM=>
      subst hlen;obtain ⟨k1,k2,k3⟩:=sW (E:=E) true lS rl rh hb;have ajx:es≠[]->sz=esz:=λ de=>by
       simp only [Bool.or_eq_true] at iJ;rcases iJ with hc|hc
       .exact aad hc
       .simp at hc; exact absurd hc de
      have cP:(execOp a.eval o).run E.P w=.ok (.value (.slice (if cap=p then some ⟨b,o',none⟩ else some ⟨b,o'+p*esz,none⟩) (q - p) (cap - p))) w:=by
       simp only [execOp,ho,ad8,aba,run_underlying e2,aaJ,afy,kR,adP,k1,run_sizeOf w f1,f2,ab6,aeH,eZ]
      have CM:∀ b2 o2,HR R (match k with | .nil=>LK.nil | .full=>(match h' with | none=>LK.full | some _=>LK.bV) | _=>LK.bV) b2 o2 (q - p) (cap - p):=by
       intro b2 o2;cases k with
       |nil=>exact MM.elim
       |bV=>trivial
       |own id=>trivial
       |bC id j=>trivial
       |full=>
        have hc:cap=es.length:=MM;cases h' with
        |some _=>trivial
        |none=>
         have hq:q=es.length:=by
          unfold QU at hb;simp only at hb;split at hb
          .cases hb
          .injection hb with hb;injection hb with _ hb;injection hb with _ hb;exact hb.symm
         show cap - p=q - p;omega
      by_cases hcp:cap=p
      .refine aM h (c:=.slice (some ⟨b,o',none⟩) (q - p) (cap - p)) (by rw [cP,if_pos hcp]) ?_;have he:Az p q es=[]:=acK (by rw [uC k3]; omega);exact Rel.list (by rw [he]; exact .nil) (by rw [uC k3]) (by omega) (CM _ _)
      .refine aM h (c:=.slice (some ⟨b,o'+p*esz,none⟩) (q - p) (cap - p)) (by rw [cP,if_neg hcp]) ?_;refine Rel.list ?_ (by rw [uC k3]) (by omega) (CM _ _);by_cases de:es=[]
       .subst de;simp [Az];exact .nil
       .have:=ajx de;subst this;exact AH p (AI q hr)
     | @pd _ ad=>
      obtain ⟨k1,k2,k3⟩:=sW (E:=E) true (aaK _) rl rh hb;simp only [acf,Nat.le_zero_eq] at k3;subst k3;have:p=0:=by omega
      subst this;refine aM h (c:=.slice (some ad) 0 0) ?_ Rel.pd
      .simp only [execOp,ho,ad8,aba,run_underlying e2,aaJ,afy,kR,adP];simp only [acf] at k1;simp [k1,run_sizeOf w f1]
     |_=>
      obtain ⟨k1,k2,k3⟩:=sW (E:=E) true (aaK _) rl rh hb;simp only [acf,Nat.le_zero_eq] at k3;subst k3;have:p=0:=by omega
      subst this;refine aM h (c:=.slice none 0 0) ?_ (by first | exact Rel.nq | exact Rel.kP)
      .simp only [execOp,ho,ad8,aba,run_underlying e2,aaJ,afy,kR,adP];simp only [acf] at k1;simp [k1,run_sizeOf w f1]
    .cases hv
   .cases hv
  .cases hv
 .cases hv
def HZ (h:bG E R w β s a) (t:TypeId) (ho:o.op=.makeMap t none):c8 E R w β s a o ((s.gj (.map [])).put o.dst (.v (.map s.G.length))):=by
 have kx:ku (R.add (.cN w.heap.size)) (w.alloc (.map #[] 0)) (.map []) (.cN w.heap.size):=⟨#[],0,heap_alloc_new w _,trivial,rfl,λ i e he=>by simp at he⟩;refine ⟨_,.map (some w.heap.size),w.alloc (.map #[] 0),R.add (.cN w.heap.size),β,?_,.inl rfl,(h.qT (.map #[] 0) (.map []) (.cN w.heap.size) (by exact λ _ h=>h) kx).put o.dst (x:=.v (.map s.G.length)) (Rel.map (kJ h _)),by rw [bQ]; exact fI h _ _ (by exact λ _ h=>h)⟩;simp only [execOp,ho,Instr.makeMap,adP,aba,run_newObj,aaJ,ab6];rfl
def wJ (h:bG E R w β s a) (t:TypeId) (x y:Operand) (ho:o.op=.makeSlice t x y) {i:TI} (hi:E.ti t=some i) {n m:Int} (hx:cK E s.ae x=.v (.int k n)) (hy:cK E s.ae y=.v (.int k' m))
  (hk:i.k=.sl elem esz ag wI (some z)) (hz:z.cells.length=esz) (Jz:1<=esz) (yf:z.bN=true) (hc:0<=n/\n<=m/\m<=140737488355328/\m*wI<=140737488355328) :
  ∃ us,bj R w (aH (aa5 m.toNat z)) us/\(∀ v∈us,v.oneCell'=true)/\(execOp a.eval o).run E.P w=.ok (.value (.slice (some ⟨w.heap.size,0,none⟩) n.toNat m.toNat)) (w.alloc (.cells ⟨us⟩ elem)):=by
 have rx:=bi h x;have ry:=bi h y;rw [hx] at rx;rw [hy] at ry;have gu:Rel R w (.int k n) (a.eval x):=rx;have um:Rel R w (.int k' m) (a.eval y):=ry;generalize kR:a.eval x=xv at gu;generalize hyv:a.eval y=yv at um;cases gu;cases um;obtain ⟨c1,c2,c3,c4⟩:=hc;obtain ⟨lR,u,e1,e2,e3,e4,e5,e6⟩:=fu E hi;rw [hk] at e5;obtain ⟨ie,ue,rfl,f1,f2,f3,f4,f5,f6⟩:=iS e5;obtain ⟨zc,yg,MS⟩:=fG f6;have hzR:=MS R w;obtain ⟨d1,d2⟩:=Rel.cells hzR yf;have xm:zc.cells.size=esz:=by rw [<- hz,d1.length]; simp
 obtain ⟨z1,z2⟩:=vD hzR yf m.toNat;have qU:((adx (m.toNat*esz)).map λ i=>zc.cells[i % zc.cells.size]!)=⟨(aa5 m.toNat zc.cells.toList).flatten⟩:=by
  apply afC;rw [<- xm];exact yD zc.cells m.toNat
 have wn:IntKind.i64.wrap n=n:=IntWalk.i64_in n (by omega);have wm:IntKind.i64.wrap m=m:=IntWalk.i64_in m (by omega);have cP:(aeQ t (.int k n) (.int k' m)).run E.P w=.ok (.slice (some ⟨w.heap.size,0,none⟩) n.toNat m.toNat) (w.alloc (.cells ⟨(aa5 m.toNat zc.cells.toList).flatten⟩ elem)):=by
  have hby:(ie.bytes:Int)*m<=281474976710656:=by rw [f3,Int.mul_comm]; omega
  have ajz:¬ 281474976710656 < (ie.bytes:Int)*m:=by omega
  have h1:¬ m < 0:=by omega
  have h2:¬ n < 0:=by omega
  have h3:¬ m < n:=by omega
  have Xz:(typeInfo elem).run E.P w=.ok ie w:=by simp [typeInfo,f1]
  by_cases h0:m.toNat*esz=0
  .have hm0:m.toNat=0:=by
    rcases aeJ.1 h0 with h0|h0 <;> omega
   have JV:∀ f:Nat->Value,Array.map f (adx 0)=#[]:=λ f=>by simp
   simp [aeQ,run_underlying e2,asInt,asIntOf,Xz,wn,wm,h1,h2,h3,ajz,run_sizeOf w f1,f2,hm0,newRow];rw [JV]
  .simp [aeQ,run_underlying e2,asInt,asIntOf,Xz,wn,wm,h1,h2,h3,ajz,run_sizeOf w f1,f2,h0,mY w f1 yg,newRow];rw [<- qU]
 refine ⟨_,z1,z2,?_⟩;simp only [execOp,ho,kR,hyv,aba,cP,aaJ,ab6]
end ops
section ops
def pi (x:Array Operand) (f:Operand->Value):x.map f=⟨x.toList.map f⟩:=afC (by simp)
def lT {b:Builtin} (ho:o.op=.call { callee:=.builtin b,args:=args,argTypes:=tys }) (vs:List Value) (hv:args.toList.map a.eval=vs) :
  (execOp a.eval o).run E.P w=(builtin b tys o.type (args.map λ | .const _=>true | _=>false) ⟨vs⟩).run E.P w:=by
 simp only [execOp,ho,resolve,aba,ab6,aaJ,invoke,pi args a.eval,hv];rfl
def fO.length:∀ {l:List (AV×AV)} {es:List MapEntry},fO R w l es->l.length=es.length
 |[],[],_=>rfl
 |_::_,_::_,h=>by simp [fO.length h.2.2]
 |[],_::_,h=>h.elim
 |_::_,[],h=>h.elim
def TU (h:bG E R w β s a) {tys:List TypeId} (ho:o.op=.call { callee:=.builtin .len,args:=args,argTypes:=⟨tys⟩ }) (hl:uk E s.ae args.toList=some l) (hs:eX E s o.dst .len l tys=some (true,s')) :
  c8 E R w β s a o s':=by
 have hr:=mZ h hl;generalize hv:args.toList.map a.eval=vs at hr;have hx:=lT (E:=E) (w:=w) ho vs hv;unfold eX at hs;split at hs <;> first | (rename_i h1; cases h1; done) | skip
 .rename_i x;cases hr with
  |cons h0 h1=>
  cases h1;split at hs
  .rename_i t tl;split at hs
   .rename_i i hi;obtain ⟨lR,u,e1,e2,e3,e4,e5,e6⟩:=fu E hi;split at hs
    .rename_i bs hk;cases hs;cases h0;rw [hk] at e5;have:=Df e5;subst this;refine aM h (c:=.int .i64 bs.length) ?_ (Rel.int _ _);rw [hx];simp [builtin,aci,run_underlying e2,goInt,size_bytes]
    .rename_i kk sz es hk;cases hs;rw [hk] at e5;obtain ⟨ie,ue,rfl,_⟩:=iS e5;refine aM h (c:=.int .i64 es.length) ?_ (Rel.int _ _);rw [hx];cases h0 with
     |nq=>simp [builtin,aci,run_underlying e2,goInt]
     |kP=>simp [builtin,aci,run_underlying e2,goInt]
     |pd=>simp [builtin,aci,run_underlying e2,goInt]
     |qq=>simp [builtin,aci,run_underlying e2,goInt]
     |qQ=>simp [builtin,aci,run_underlying e2,goInt]
     |list _ hlen _ _=>subst hlen; simp [builtin,aci,run_underlying e2,goInt]
    .rename_i id off sz len cap hk;cases hs;rw [hk] at e5;obtain ⟨ie,ue,rfl,_⟩:=iS e5;refine aM h (c:=.int .i64 len) ?_ (Rel.int _ _);rw [hx];cases h0;simp [builtin,aci,run_underlying e2,goInt]
    .rename_i id f' off sz len hk;cases hs;rw [hk] at e5;obtain ⟨ie,ue,rfl,_⟩:=iS e5;refine aM h (c:=.int .i64 len) ?_ (Rel.int _ _);rw [hx];cases h0 <;> simp [builtin,aci,run_underlying e2,goInt]
    .rename_i id j' sz len hk;cases hs;rw [hk] at e5;obtain ⟨ie,ue,rfl,_⟩:=iS e5;refine aM h (c:=.int .i64 len) ?_ (Rel.int _ _);rw [hx];cases h0 <;> simp [builtin,aci,run_underlying e2,goInt]
    .rename_i n esz ag hk;cases hs;rw [hk] at e5;obtain ⟨e,ie,ue,rfl,_⟩:=De e5;refine aM h (c:=.int .i64 n) ?_ (Rel.int _ _);rw [hx];simp [builtin,aci,run_underlying e2,goInt]
    .rename_i hk;cases hs;rw [hk] at e5;obtain ⟨rfl,_⟩:=rJ e5;refine aM h (c:=.int .i64 0) ?_ (Rel.int _ _);rw [hx];cases h0;simp [builtin,aci,run_underlying e2,goInt]
    .rename_i id hk;split at hs
     .rename_i es hg;cases hs;rw [hk] at e5;obtain ⟨rfl,_⟩:=rJ e5;cases h0 with
      | @map _ b hb=>
      obtain ⟨aQ,clock,g1,g2,g3⟩:=h.g.obj id _ _ hg hb;refine aM h (c:=.int .i64 es.length) ?_ (Rel.int _ _);rw [hx];have kx:(getObj b).run E.P w=.ok (.map aQ clock) w:=by simp [getObj,Sem.run,g1]
      simp [builtin,aci,run_underlying e2,goInt,kx,g2.length]
     .cases hs
    .cases hs
   .cases hs
  .cases hs
 .cases hs
def Pa {b:Bool}:∀ {l:List AV} {x v:AV} {c:Value} {cs:List Value},Rel R w x c->bj R w l cs->QV x l=some v->∃ c',(cs.foldlM Builtin.max2 c).run E.P w=.ok c' w/\Rel R w v c'
 |[],x,v,c,cs,hr,hl,hv=>by
  cases hl;simp only [QV] at hv;cases hv;exact ⟨c,rfl,hr⟩
 |y::l,x,v,c,cs,hr,hl,hv=>by
  cases hl with
  |cons hy hl=>
  unfold QV at hv;split at hv
  .rename_i ph; cases ph
  .rename_i k n k' m l' ph;cases ph;split at hv
   .rename_i hk;subst hk;cases hr;cases hy;obtain ⟨c',h1,h2⟩:=Pa (b:=b) (Rel.int k (if m > n then m else n)) hl hv;refine ⟨c',?_,h2⟩;simp only [aes,aba,Builtin.max2,ab6,aaJ];exact h1
   .cases hv
  .cases hv
def H3 {b:Bool}:∀ {l:List AV} {x v:AV} {c:Value} {cs:List Value},Rel R w x c->bj R w l cs->MD x l=some v->∃ c',(cs.foldlM aet c).run E.P w=.ok c' w/\Rel R w v c'
 |[],x,v,c,cs,hr,hl,hv=>by
  cases hl;simp only [MD] at hv;cases hv;exact ⟨c,rfl,hr⟩
 |y::l,x,v,c,cs,hr,hl,hv=>by
  cases hl with
  |cons hy hl=>
  unfold MD at hv;split at hv
  .rename_i ph; cases ph
  .rename_i k n k' m l' ph;cases ph;split at hv
   .rename_i hk;subst hk;cases hr;cases hy;obtain ⟨c',h1,h2⟩:=H3 (b:=b) (Rel.int k (if m < n then m else n)) hl hv;refine ⟨c',?_,h2⟩;simp only [aes,aba,aet,ab6,aaJ];exact h1
   .cases hv
  .rename_i n m l' ph;cases ph;cases hr;cases hy;obtain ⟨c',h1,h2⟩:=H3 (b:=b) (Rel.str (bif afW n m || n == m then n else m)) hl hv;refine ⟨c',?_,h2⟩;have e:(aet (.string ⟨⟨n⟩⟩) (.string ⟨⟨m⟩⟩)).run E.P w=.ok (.string ⟨⟨bif afW n m || n == m then n else m⟩⟩) w:=by
    simp only [aet,Op.stringOp,aba,ab6,aaJ];show Result.andThen ((asBool _).run E.P w) _=_;cases hb:(afW n m || n == m) <;> simp_all [asBool]
   simp only [aes,aba,e,aaJ];exact h1
  .cases hv
def TV (h:bG E R w β s a) (ho:o.op=.call { callee:=.builtin .max,args:=args,argTypes:=tys }) (hl:uk E s.ae args.toList=some (x::l)) (hm:QV x l=some v) :
  c8 E R w β s a o (s.put o.dst (.v v)):=by
 have hr:=mZ h hl;generalize hv:args.toList.map a.eval=vs at hr;have hx:=lT (E:=E) (w:=w) ho vs hv;cases hr with
 |cons h0 h1=>
 obtain ⟨c',k1,k2⟩:=Pa (E:=E) (b:=true) h0 h1 hm;refine aM h (c:=c') ?_ k2;rw [hx];simp [builtin,Builtin.max_,k1]
def TW (h:bG E R w β s a) (ho:o.op=.call { callee:=.builtin .min,args:=args,argTypes:=tys }) (hl:uk E s.ae args.toList=some (x::l)) (hm:MD x l=some v) :
  c8 E R w β s a o (s.put o.dst (.v v)):=by
 have hr:=mZ h hl;generalize hv:args.toList.map a.eval=vs at hr;have hx:=lT (E:=E) (w:=w) ho vs hv;cases hr with
 |cons h0 h1=>
 obtain ⟨c',k1,k2⟩:=H3 (E:=E) (b:=true) h0 h1 hm;refine aM h (c:=c') ?_ k2;rw [hx];simp [builtin,Builtin.min_,k1]
end ops
section ops
def ak.upto (R:ak) (g n:Nat) (obj:List RO):ak:=⟨λ b o=>R.I b o\/(b=g/\o < n),obj⟩
def aE {l:List RO} {x r y:RO} (aui:nth l id=some y) (h:nth (aC l id x) i=some r):(i=id/\r=x)\/(i≠id/\nth l i=some r):=by
 rcases df h with ⟨rfl,rfl,_⟩|⟨de,h⟩
 .exact .inl ⟨rfl,rfl⟩
 .exact .inr ⟨adj de,h⟩
def MU (wf:∀ b o,R.I b o->b < w.heap.size) (x:Obj) {n id m:Nat} (cG:nth R.obj id=some r0) (b' c':Nat) (du:dy r0 (.tok m b' c' 0)):Ext R w (R.upto w.heap.size n (aC R.obj id (.tok m b' c' 0))) (w.drew.alloc x):=
 ⟨λ _ _ h=>.inl h,λ b o h=>dv (heap_alloc_old w.drew x b (wf b o h)) o,λ i r h=>by
  by_cases e:id=i
  .subst e;rw [cG] at h;cases h;exact ⟨_,az cG,du⟩
  .exact ⟨r,by rw [ak.upto,bE e]; exact h,dy.refl r⟩,.old λ b hb=>heap_alloc_old w.drew x b hb⟩
def JW (wf:∀ b o,R.I b o->b < w.heap.size) (x:Obj) (n:Nat) (ro:RO):Ext R w (R.upto w.heap.size n (R.obj++[ro])) (w.alloc x):=
 ⟨λ _ _ h=>.inl h,λ b o h=>dv (heap_alloc_old w x b (wf b o h)) o,λ _ r h=>⟨r,dg h,dy.refl r⟩,.old λ b hb=>heap_alloc_old w x b hb⟩
def bG.Pb (h:bG E R w β s a) {cur:Array Value} {elem:TypeId} {n sz cap:Nat} (hn:n<=cap) (hm:cap<=maxLen) (hs:cur.size=cap*sz) :
  bG E (R.upto w.heap.size (n*sz) (R.obj++[.tok n w.heap.size cap 0])) (w.alloc (.cells cur elem)) β (s.gj (.tok n sz elem)) a /\
  Step R w β s.boxes (R.upto w.heap.size (n*sz) (R.obj++[.tok n w.heap.size cap 0])) (w.alloc (.cells cur elem)) β s.boxes:=by
 have e:=JW (R:=R) (w:=w) h.g.wf (.cells cur elem) (n*sz) (.tok n w.heap.size cap 0);have old:∀ b,b < w.heap.size->(w.alloc (.cells cur elem)).heap[b]?=w.heap[b]?:=λ b hb=>heap_alloc_old w _ b hb
 have new:(w.alloc (.cells cur elem)).heap[w.heap.size]?=some (.cells cur elem (0,0)):=heap_alloc_new w _;have hI:∀ b o,b < w.heap.size->(R.upto w.heap.size (n*sz) (R.obj++[.tok n w.heap.size cap 0])).I b o->R.I b o:=λ b o hb hi=>by
  rcases hi with hi|⟨hi,_⟩
  .exact hi
  .omega
 refine ⟨⟨⟨by simp [St.gj,ak.upto,h.g.len],λ id g r h1 h2=>?_,λ i j ri rj b h1 h2 b1 b2=>?_,λ b o hi=>?_,λ g cs hg=>(h.g.fU g cs hg).mono e,by first | exact h.g.lo | exact adk h.g.lo⟩,?_,h.t.mono e,h.n,h.d.mono e⟩,?_⟩
 .rcases aq h2 with h2|⟨h3,rfl⟩
  .have du:=bX h2;rw [h.g.len] at du;rcases aq h1 with h1|⟨h4,_⟩
   .exact (h.g.obj id g r h1 h2).mono e (λ b hb=>old b (h.g.dS ⟨id,r,h2,hb⟩)) (λ b o hb=>hI b o (h.g.dS ⟨id,r,h2,hb⟩))
   .omega
  .rcases aq h1 with h1|⟨h4,rfl⟩
   .have:=bX h1;rw [h3,h.g.len] at this;omega
   .refine ⟨rfl,cur,new,hn,hm,by omega,λ o' An hi=>?_⟩;rcases hi with hi|⟨_,hi⟩
    .have:=h.g.wf _ _ hi;omega
    .omega
 .rcases aq h1 with g1|⟨h3,e1⟩
  .rcases aq h2 with g2|⟨h4,e2⟩
   .exact h.g.inj i j ri rj b g1 g2 b1 b2
   .have:=h.g.dS ⟨i,ri,g1,b1⟩;rw [e2] at b2;simp [RO.has] at b2;omega
  .rcases aq h2 with g2|⟨h4,e2⟩
   .have:=h.g.dS ⟨j,rj,g2,b2⟩;rw [e1] at b1;simp [RO.has] at b1;omega
   .omega
 .rcases hi with hi|⟨rfl,_⟩
  .have:=h.g.wf b o hi;simp;omega
  .simp
 .refine h.b.keep e (λ k cs hk=>old _ (h.gF (.inr ⟨k,cs,hk,rfl⟩))) (λ k cs o hk=>hI _ o (h.gF (.inr ⟨k,cs,hk,rfl⟩))) (λ k cs hk hl=>?_);rcases yB (R:=R) (ro:=.tok n w.heap.size cap 0) hl with hl|hl
  .exact hl
  .have:=h.gF (.inr ⟨k,cs,hk,rfl⟩);simp [RO.has] at hl;omega
 .refine ⟨e,rfl,rfl,rfl,by simp,λ b hb _=>old b hb,λ b hb ho=>?_,λ b o hi hb _=>hI b o hb hi⟩;rcases ho with ho|ho
  .rcases yB (R:=R) (ro:=.tok n w.heap.size cap 0) ho with ho|ho
   .exact .inl ho
   .simp [RO.has] at ho;omega
  .exact .inr ho
def bG.drew (h:bG E R w β s a):Ext R w R w.drew/\bG E R w.drew β s a/\Step R w β s.boxes R w.drew β s.boxes:=by
 have e:Ext R w R w.drew:=⟨λ _ _ h=>h,λ _ _ _=>rfl,λ _ r h=>⟨r,h,dy.refl r⟩,.old λ _ _=>rfl⟩;exact ⟨e,h.keep e rfl (λ _ _=>rfl) (λ _ _ _ hi=>hi) h.g.wf (λ hd=>adk hd),⟨e,rfl,rfl,rfl,aaK _,λ _ _ _=>rfl,λ _ _ ho=>ho,λ _ _ hi _ _=>hi⟩⟩
def bG.adX (h:bG E R w β s a) {cur:Array Value} {elem:TypeId} {sz cap:Nat} (hn:n<=cap) (hm:cap<=maxLen) (hs:cur.size=cap*sz) :
  bG E (R.upto w.heap.size (n*sz) (R.obj++[.tok n w.heap.size cap 0])) (w.drew.alloc (.cells cur elem)) β (s.gj (.tok n sz elem)) a /\
  Step R w β s.boxes (R.upto w.heap.size (n*sz) (R.obj++[.tok n w.heap.size cap 0])) (w.drew.alloc (.cells cur elem)) β s.boxes:=
 have ⟨_,h1,h2⟩:=h.drew;have ⟨r1,r2⟩:=h1.Pb hn hm hs
 ⟨r1,h2.trans r2⟩
def AN (h:bG E R w β s a) (t:TypeId) (len:Nat) (parts:Array (Nat×Operand)) (ho:o.op=.buildSlice t len parts) {k:LK} {esz:Nat} (hv:dW E s t len parts.toList=some (.list k esz es)) {i:TI} (hi:E.ti t=some i) {elem cr wI:Nat} {z:Option AV} (hk:i.k=.sl elem cr ag wI z) (hm:len<=65536) :
  c8 E R w β s a o ((s.gj (.tok len esz elem)).put o.dst (.v (.list (.own s.G.length) esz es))):=by
 obtain ⟨es',ajw,us,asm,hve,cP,g2,hlen,u2,u3,i',ag',by',z',wC,mr⟩:=pg h t len parts ho hv;cases hve;rw [hi] at wC;cases wC;rw [hk] at mr;cases mr;have hus:us.length=len*esz:=by rw [<- u2.length,kz g2,hlen]
 obtain ⟨r1,r2⟩:=h.Pb (cur:=⟨us⟩) (elem:=elem) (n:=len) (sz:=esz) (cap:=len) (aaK _) (by simp [maxLen]; omega) (by simpa using hus);refine ⟨_,.slice (some ⟨w.heap.size,0,none⟩) len len,_,_,β,cP,.inl rfl,r1.put o.dst (x:=.v (.list (.own s.G.length) esz es)) ?_,by rw [bQ]; exact r2⟩;refine Rel.list (oR g2 (jG.make (u2.mono r2.ext) u3 (λ j x hx=>?_) (λ j hj=>.inr ⟨rfl,?_⟩))) hlen.symm (aaK _) ⟨.tok len w.heap.size len 0,kJ h _,?_⟩
 .rw [uy (heap_alloc_new w _)];simpa using hx
 .rw [kz g2,hlen] at hj;omega
 .exact ⟨aaK _,λ _=>⟨rfl,.inl rfl,rfl⟩⟩
def bG.TX (h:bG E R w β s a) {cur:Array Value} {elem e0:TypeId} {n sz cap id f:Nat} (hg:nth s.G id=some (.tok f sz e0)) (cG:nth R.obj id=some r0) (hf:∀ b c,dy r0 (.tok n b c 0)) (hn:n<=cap) (hm:cap<=maxLen) (hs:cur.size=cap*sz) :
  bG E (R.upto w.heap.size (n*sz) (aC R.obj id (.tok n w.heap.size cap 0))) (w.drew.alloc (.cells cur elem)) β (s.cM (aC s.G id (.tok n sz elem))) a /\
  Step R w β s.boxes (R.upto w.heap.size (n*sz) (aC R.obj id (.tok n w.heap.size cap 0))) (w.drew.alloc (.cells cur elem)) β s.boxes:=by
 have e:=MU (R:=R) (w:=w) (n:=n*sz) h.g.wf (.cells cur elem) cG w.heap.size cap (hf _ _);have old:∀ b,b < w.heap.size->(w.drew.alloc (.cells cur elem)).heap[b]?=w.heap[b]?:=λ b hb=>heap_alloc_old w.drew _ b hb
 have new:(w.drew.alloc (.cells cur elem)).heap[w.heap.size]?=some (.cells cur elem (0,0)):=heap_alloc_new w.drew _;have hI:∀ b o,b < w.heap.size->(R.upto w.heap.size (n*sz) (aC R.obj id (.tok n w.heap.size cap 0))).I b o->R.I b o:=λ b o hb hi=>by
  rcases hi with hi|⟨hi,_⟩
  .exact hi
  .omega
 have live:∀ b,b < w.heap.size->Live (R.upto w.heap.size (n*sz) (aC R.obj id (.tok n w.heap.size cap 0))) b->Live R b:=λ b hb hl=>by
  obtain ⟨i,r,h1,h2⟩:=hl;rcases aE cG h1 with ⟨_,rfl⟩|⟨_,h1⟩
  .simp [RO.has] at h2;omega
  .exact ⟨i,r,h1,h2⟩
 refine ⟨⟨⟨by simp [St.cM,ak.upto,h.g.len],λ i gg r h1 h2=>?_,λ i j ri rj b h1 h2 b1 b2=>?_,λ b o hi=>?_,λ g cs hg=>(h.g.fU g cs hg).mono e,by first | exact h.g.lo | exact adk h.g.lo⟩,?_,h.t.mono e,h.n,h.d.mono e⟩,?_⟩
 .rcases aE cG h2 with ⟨rfl,rfl⟩|⟨de,h2⟩
  .simp only [St.cM] at h1;rw [az hg] at h1;cases h1;refine ⟨rfl,cur,new,hn,hm,by omega,λ o' An hi=>?_⟩;rcases hi with hi|⟨_,hi⟩
   .have:=h.g.wf _ _ hi;omega
   .omega
  .simp only [St.cM] at h1;rw [bE (adj de)] at h1;exact (h.g.obj i gg r h1 h2).mono e (λ b hb=>old b (h.g.dS ⟨i,r,h2,hb⟩)) (λ b o hb=>hI b o (h.g.dS ⟨i,r,h2,hb⟩))
 .rcases aE cG h1 with ⟨g3,e1⟩|⟨g3,g1⟩
  .rcases aE cG h2 with ⟨g4,e2⟩|⟨g4,g2⟩
   .omega
   .have:=h.g.dS ⟨j,rj,g2,b2⟩;rw [e1] at b1;simp [RO.has] at b1;omega
  .rcases aE cG h2 with ⟨g4,e2⟩|⟨g4,g2⟩
   .have:=h.g.dS ⟨i,ri,g1,b1⟩;rw [e2] at b2;simp [RO.has] at b2;omega
   .exact h.g.inj i j ri rj b g1 g2 b1 b2
 .rcases hi with hi|⟨rfl,_⟩
  .have:=h.g.wf b o hi;simp;omega
  .simp
 .exact h.b.keep e (λ k cs hk=>old _ (h.gF (.inr ⟨k,cs,hk,rfl⟩))) (λ k cs o hk=>hI _ o (h.gF (.inr ⟨k,cs,hk,rfl⟩))) (λ k cs hk hl=>live _ (h.gF (.inr ⟨k,cs,hk,rfl⟩)) hl)
 .refine ⟨e,rfl,rfl,rfl,by simp,λ b hb _=>old b hb,λ b hb ho=>?_,λ b o hi hb _=>hI b o hb hi⟩;rcases ho with ho|ho
  .exact .inl (live b hb ho)
  .exact .inr ho
def bG.Yc (h:bG E R w β s a) {news:List Value} {elem:TypeId} {n sz id f g c k:Nat} (hg:nth s.G id=some (.tok f sz elem)) (cG:nth R.obj id=some (.tok f g c k)) (hf:f < n) (hn:n<=c)
  (mA:w.heap[g]?=some (.cells cur elem (0,0))) (hs:cur.size=k+c*sz) (hm:c<=maxLen) (hl:f*sz+news.length=n*sz) :
  Ext R w (R.upto g (k+n*sz) (aC R.obj id (.tok n g c k))) (w.setRow g (cur.toList.take (k+f*sz)++news++cur.toList.drop (k+f*sz+news.length)).toArray) /\
  bG E (R.upto g (k+n*sz) (aC R.obj id (.tok n g c k))) (w.setRow g (cur.toList.take (k+f*sz)++news++cur.toList.drop (k+f*sz+news.length)).toArray) β (s.cM (aC s.G id (.tok n sz elem))) a /\
  Step R w β s.boxes (R.upto g (k+n*sz) (aC R.obj id (.tok n g c k))) (w.setRow g (cur.toList.take (k+f*sz)++news++cur.toList.drop (k+f*sz+news.length)).toArray) β s.boxes:=by
 obtain ⟨_,xn,ab8,_,_,_,pj⟩:=h.g.obj id _ _ hg cG;rw [mA] at ab8;cases ab8;have hle:n*sz<=c*sz:=aaR _ hn;generalize xo:(cur.toList.take (k+f*sz)++news++cur.toList.drop (k+f*sz+news.length)).toArray=cur2;have old:∀ b,b≠g->(w.setRow g cur2).heap[b]?=w.heap[b]?:=λ b hb=>setRow_other w g b cur2 hb
 have new:(w.setRow g cur2).heap[g]?=some (.cells cur2 elem (0,0)):=setRow_heap w g cur cur2 elem (0,0) mA;have hlen:k+f*sz<=cur.toList.length:=by simp; omega
 have iJ:cur2.size=k+c*sz:=by
  rw [<- xo];simp;omega
 have Dn:Live R g:=⟨id,_,cG,rfl⟩;have e:Ext R w (R.upto g (k+n*sz) (aC R.obj id (.tok n g c k))) (w.setRow g cur2):=by
  refine ⟨λ _ _ hi=>.inl hi,λ b o hi=>?_,λ i r hr=>?_,λ b r hb=>⟨r,(old b λ e=>by subst e; rw [mA] at hb; cases hb).trans hb,rfl,rfl,rfl,rfl,rfl⟩⟩
  .by_cases hb:b=g
   .subst hb;have ho:o < k+f*sz:=Nat.lt_of_not_le λ hle=>pj o hle hi
    simp only [World.cell?,new,mA];have:cur2[o]?=cur[o]?:=by
     rw [<- xo,acq];simp only [adl];rw [abN (by simp; omega),ab5,if_pos ho,ab7]
    simp [this]
   .exact dv (old b hb) o
  .by_cases ei:id=i
   .subst ei;rw [cG] at hr;cases hr;exact ⟨_,az cG,by omega,λ e=>by omega⟩
   .exact ⟨r,by rw [ak.upto,bE ei]; exact hr,dy.refl r⟩
 have hI:∀ b o,b≠g->(R.upto g (k+n*sz) (aC R.obj id (.tok n g c k))).I b o->R.I b o:=λ b o hb hi=>by
  rcases hi with hi|⟨hi,_⟩
  .exact hi
  .exact absurd hi hb
 have live:∀ b,Live (R.upto g (k+n*sz) (aC R.obj id (.tok n g c k))) b->Live R b:=λ b hl=>by
  obtain ⟨i,r,h1,h2⟩:=hl;rcases aE cG h1 with ⟨_,rfl⟩|⟨_,h1⟩
  .exact ⟨id,_,cG,h2⟩
  .exact ⟨i,r,h1,h2⟩
 have xp:∀ k cs,fm s.boxes k=some cs->β k≠g:=λ k cs hk eq=>(h.b.box k cs hk).2.2 (eq ▸ Dn)
 refine ⟨e,⟨⟨by simp [St.cM,ak.upto,h.g.len],λ i gg r h1 h2=>?_,λ i j ri rj b h1 h2 b1 b2=>?_,λ b o hi=>?_,λ g cs hg=>(h.g.fU g cs hg).mono e,by first | exact h.g.lo | exact adk h.g.lo⟩,?_,h.t.mono e,h.n,h.d.mono e⟩,?_⟩
 .rcases aE cG h2 with ⟨rfl,rfl⟩|⟨de,h2⟩
  .simp only [St.cM] at h1;rw [az hg] at h1;cases h1;refine ⟨rfl,cur2,new,hn,hm,iJ,λ o' An hi=>?_⟩;rcases hi with hi|⟨_,hi⟩
   .exact pj o' (by have:=aaR sz (Nat.le_of_lt hf); omega) hi
   .omega
  .simp only [St.cM] at h1;rw [bE (adj de)] at h1;have hbg:∀ b,r.has b->b≠g:=λ b hb eq=>de (h.g.inj i id _ _ b h2 cG hb (by rw [eq]; rfl))
   exact (h.g.obj i gg r h1 h2).mono e (λ b hb=>old b (hbg b hb)) (λ b o hb=>hI b o (hbg b hb))
 .rcases aE cG h1 with ⟨g3,e1⟩|⟨g3,g1⟩
  .rcases aE cG h2 with ⟨g4,e2⟩|⟨g4,g2⟩
   .omega
   .rw [e1] at b1;exact g3.trans (h.g.inj id j _ _ b cG g2 b1 b2)
  .rcases aE cG h2 with ⟨g4,e2⟩|⟨g4,g2⟩
   .rw [e2] at b2;exact (h.g.inj i id _ _ b g1 cG b1 b2).trans g4.symm
   .exact h.g.inj i j ri rj b g1 g2 b1 b2
 .rcases hi with hi|⟨rfl,_⟩
  .have:=h.g.wf b o hi;simpa using this
  .have:=cu mA;simpa using this
 .exact h.b.keep e (λ q cs hk=>old _ (xp q cs hk)) (λ q cs o hk=>hI _ o (xp q cs hk)) (λ q cs hk hl=>live _ hl)
 .refine ⟨e,rfl,rfl,rfl,by simp,λ b hb AO=>old b (λ eq=>AO (.inl (eq ▸ Dn))),λ b hb ho=>?_,λ b o hi hb AO=>hI b o (λ eq=>AO (.inl (eq ▸ Dn))) hi⟩;rcases ho with ho|ho
  .exact .inl (live b ho)
  .exact .inr ho
structure One (w w':World) (x:Obj):Prop where
 old:∀ b,b < w.heap.size->w'.heap[b]?=w.heap[b]?
 new:w'.heap[w.heap.size]?=some x
 size:w'.heap.size=w.heap.size+1
 os:w'.os=w.os
 tape:w'.tape=w.tape
 output:w'.output=w.output
 drawn:w.drawn<=w'.drawn
def One.alloc (w:World) (x:Obj):One w (w.alloc x) x:=⟨λ b hb=>heap_alloc_old w x b hb,heap_alloc_new w x,by simp,rfl,rfl,rfl,aaK _⟩
def One.drew (w:World) (x:Obj):One w (w.drew.alloc x) x:=⟨λ b hb=>heap_alloc_old w.drew x b hb,heap_alloc_new w.drew x,by simp,rfl,rfl,rfl,Nat.le_succ _⟩
def Yd {x:Obj} (o1:One w w' x) (wf:∀ b o,R.I b o->b < w.heap.size) {n id:Nat} (cG:nth R.obj id=some r0) (hle:dy r0 r1):Ext R w (R.upto w.heap.size n (aC R.obj id r1)) w':=
 ⟨λ _ _ h=>.inl h,λ b o h=>dv (o1.old b (wf b o h)) o,λ i r h=>by
  by_cases e:id=i
  .subst e;rw [cG] at h;cases h;exact ⟨_,az cG,hle⟩
  .exact ⟨r,by rw [ak.upto,bE e]; exact h,dy.refl r⟩,.old λ b hb=>o1.old b hb⟩
def bG.adZ (h:bG E R w β s a) {x:Obj} (o1:One w w' x) {n id:Nat} {r1:RO} {go:GO} (hg:nth s.G id=some Te) (cG:nth R.obj id=some r0) (hle:dy r0 r1) (qV:∀ b,r1.has b->b=w.heap.size\/r0.has b)
  (kx:ku (R.upto w.heap.size n (aC R.obj id r1)) w' go r1) :
  bG E (R.upto w.heap.size n (aC R.obj id r1)) w' β (s.cM (aC s.G id go)) a/\Step R w β s.boxes (R.upto w.heap.size n (aC R.obj id r1)) w' β s.boxes:=by
 have e:=Yd (R:=R) (n:=n) o1 h.g.wf cG hle;have hI:∀ b o,b < w.heap.size->(R.upto w.heap.size n (aC R.obj id r1)).I b o->R.I b o:=λ b o hb hi=>by
  rcases hi with hi|⟨hi,_⟩
  .exact hi
  .omega
 have live:∀ b,b < w.heap.size->Live (R.upto w.heap.size n (aC R.obj id r1)) b->Live R b:=λ b hb hl=>by
  obtain ⟨i,r,h1,h2⟩:=hl;rcases aE cG h1 with ⟨_,rfl⟩|⟨_,h1⟩
  .rcases qV b h2 with h3|h3
   .omega
   .exact ⟨id,r0,cG,h3⟩
  .exact ⟨i,r,h1,h2⟩
 refine ⟨⟨⟨by simp [St.cM,ak.upto,h.g.len],λ i gg r h1 h2=>?_,λ i j ri rj b h1 h2 b1 b2=>?_,λ b o hi=>?_,λ g cs hg=>(h.g.fU g cs hg).mono e,adR h.g.lo o1.drawn⟩,?_,h.t.mono e,h.n,h.d.mono e⟩,?_⟩
 .rcases aE cG h2 with ⟨rfl,rfl⟩|⟨de,h2⟩
  .simp only [St.cM] at h1;rw [az hg] at h1;cases h1;exact kx
  .simp only [St.cM] at h1;rw [bE (adj de)] at h1;exact (h.g.obj i gg r h1 h2).mono e (λ b hb=>o1.old b (h.g.dS ⟨i,r,h2,hb⟩)) (λ b o hb=>hI b o (h.g.dS ⟨i,r,h2,hb⟩))
 .rcases aE cG h1 with ⟨g3,e1⟩|⟨g3,g1⟩
  .rcases aE cG h2 with ⟨g4,e2⟩|⟨g4,g2⟩
   .omega
   .rw [e1] at b1;rcases qV b b1 with b3|b3
    .have:=h.g.dS ⟨j,rj,g2,b2⟩;omega
    .exact g3.trans (h.g.inj id j _ _ b cG g2 b3 b2)
  .rcases aE cG h2 with ⟨g4,e2⟩|⟨g4,g2⟩
   .rw [e2] at b2;rcases qV b b2 with b3|b3
    .have:=h.g.dS ⟨i,ri,g1,b1⟩;omega
    .exact (h.g.inj i id _ _ b g1 cG b1 b3).trans g4.symm
   .exact h.g.inj i j ri rj b g1 g2 b1 b2
 .rcases hi with hi|⟨rfl,_⟩
  .have:=h.g.wf b o hi;rw [o1.size];omega
  .rw [o1.size]; omega
 .exact h.b.keep e (λ q cs hk=>o1.old _ (h.gF (.inr ⟨q,cs,hk,rfl⟩))) (λ q cs o hk=>hI _ o (h.gF (.inr ⟨q,cs,hk,rfl⟩))) (λ q cs hk hl=>live _ (h.gF (.inr ⟨q,cs,hk,rfl⟩)) hl)
 .refine ⟨e,o1.os,o1.tape,o1.output,by rw [o1.size]; omega,λ b hb _=>o1.old b hb,λ b hb ho=>?_,λ b o hi hb _=>hI b o hb hi⟩;rcases ho with ho|ho
  .exact .inl (live b hb ho)
  .exact .inr ho
def bG.Ye (h:bG E R w β s a) {cur2:Array Value} {elem:TypeId} {n id g:Nat} {r1:RO} {go:GO} (hg:nth s.G id=some Te) (cG:nth R.obj id=some r0) (hg0:r0.has g) (hle:dy r0 r1) (qV:∀ b,r1.has b->r0.has b)
  (mA:w.heap[g]?=some (.cells cur elem (0,0))) (Dp:∀ o,R.I g o->cur2[o]?=cur[o]?)
  (kx:Ext R w (R.upto g n (aC R.obj id r1)) (w.setRow g cur2)->ku (R.upto g n (aC R.obj id r1)) (w.setRow g cur2) go r1) :
  Ext R w (R.upto g n (aC R.obj id r1)) (w.setRow g cur2)/\bG E (R.upto g n (aC R.obj id r1)) (w.setRow g cur2) β (s.cM (aC s.G id go)) a/\Step R w β s.boxes (R.upto g n (aC R.obj id r1)) (w.setRow g cur2) β s.boxes:=by
 have old:∀ b,b≠g->(w.setRow g cur2).heap[b]?=w.heap[b]?:=λ b hb=>setRow_other w g b cur2 hb
 have new:(w.setRow g cur2).heap[g]?=some (.cells cur2 elem (0,0)):=setRow_heap w g cur cur2 elem (0,0) mA;have Dn:Live R g:=⟨id,_,cG,hg0⟩;have e:Ext R w (R.upto g n (aC R.obj id r1)) (w.setRow g cur2):=by
  refine ⟨λ _ _ hi=>.inl hi,λ b o hi=>?_,λ i r hr=>?_,λ b r hb=>⟨r,(old b λ e=>by subst e; rw [mA] at hb; cases hb).trans hb,rfl,rfl,rfl,rfl,rfl⟩⟩
  .by_cases hb:b=g
   .subst hb;simp only [World.cell?,new,mA,Dp o hi]
   .exact dv (old b hb) o
  .by_cases ei:id=i
   .subst ei;rw [cG] at hr;cases hr;exact ⟨_,az cG,hle⟩
   .exact ⟨r,by rw [ak.upto,bE ei]; exact hr,dy.refl r⟩
 have hI:∀ b o,b≠g->(R.upto g n (aC R.obj id r1)).I b o->R.I b o:=λ b o hb hi=>by
  rcases hi with hi|⟨hi,_⟩
  .exact hi
  .exact absurd hi hb
 have live:∀ b,Live (R.upto g n (aC R.obj id r1)) b->Live R b:=λ b hl=>by
  obtain ⟨i,r,h1,h2⟩:=hl;rcases aE cG h1 with ⟨_,rfl⟩|⟨_,h1⟩
  .exact ⟨id,_,cG,qV b h2⟩
  .exact ⟨i,r,h1,h2⟩
 have xp:∀ k cs,fm s.boxes k=some cs->β k≠g:=λ k cs hk eq=>(h.b.box k cs hk).2.2 (eq ▸ Dn)
 refine ⟨e,⟨⟨by simp [St.cM,ak.upto,h.g.len],λ i gg r h1 h2=>?_,λ i j ri rj b h1 h2 b1 b2=>?_,λ b o hi=>?_,λ g cs hg=>(h.g.fU g cs hg).mono e,h.g.lo⟩,?_,h.t.mono e,h.n,h.d.mono e⟩,?_⟩
 .rcases aE cG h2 with ⟨rfl,rfl⟩|⟨de,h2⟩
  .simp only [St.cM] at h1;rw [az hg] at h1;cases h1;exact kx e
  .simp only [St.cM] at h1;rw [bE (adj de)] at h1;have hbg:∀ b,r.has b->b≠g:=λ b hb eq=>de (h.g.inj i id _ _ b h2 cG hb (by rw [eq]; exact hg0))
   exact (h.g.obj i gg r h1 h2).mono e (λ b hb=>old b (hbg b hb)) (λ b o hb=>hI b o (hbg b hb))
 .rcases aE cG h1 with ⟨g3,e1⟩|⟨g3,g1⟩
  .rcases aE cG h2 with ⟨g4,e2⟩|⟨g4,g2⟩
   .omega
   .rw [e1] at b1;exact g3.trans (h.g.inj id j _ _ b cG g2 (qV b b1) b2)
  .rcases aE cG h2 with ⟨g4,e2⟩|⟨g4,g2⟩
   .rw [e2] at b2;exact (h.g.inj i id _ _ b g1 cG b1 (qV b b2)).trans g4.symm
   .exact h.g.inj i j ri rj b g1 g2 b1 b2
 .rcases hi with hi|⟨rfl,_⟩
  .have:=h.g.wf b o hi;simpa using this
  .have:=cu mA;simpa using this
 .exact h.b.keep e (λ q cs hk=>old _ (xp q cs hk)) (λ q cs o hk=>hI _ o (xp q cs hk)) (λ q cs hk hl=>live _ hl)
 .refine ⟨e,rfl,rfl,rfl,by simp,λ b hb AO=>old b (λ eq=>AO (.inl (eq ▸ Dn))),λ b hb ho=>?_,λ b o hi hb AO=>hI b o (λ eq=>AO (.inl (eq ▸ Dn))) hi⟩;rcases ho with ho|ho
  .exact .inl (live b ho)
  .exact .inr ho
def yu.set {t t':TR} (ht:nth ts j=some t) (hle:km t t'):yu ts (aC ts j t'):=λ i u hu=>by
 by_cases e:j=i
 .subst e;rw [ht] at hu;cases hu;exact ⟨t',az ht,hle⟩
 .exact ⟨u,by rw [bE e]; exact hu,km.refl u⟩
def Pc {b:Nat} (h:RO.has (.bC (aC ts j (.tok n g c))) b):b=g\/RO.has (.bC ts) b:=by
 obtain ⟨i,f,c',hi⟩:=h;rcases df hi with ⟨_,e,_⟩|⟨_,hi⟩
 .cases e; exact .inl rfl
 .exact .inr ⟨i,f,c',hi⟩
def Gx.of {f:Nat} {t:TR} (h:Gx R w sz e f t) (hold:∀ f b c,t=.tok f b c->w'.heap[b]?=w.heap[b]?/\∀ o,R'.I b o->R.I b o):Gx R' w' sz e f t:=by
 cases t with
 |bK=>exact h
 |full f'=>exact h
 |tok f' b c=>
  obtain ⟨h0,cur,h1,h2,h3,h4,h5⟩:=h;obtain ⟨k1,k2⟩:=hold f' b c rfl;exact ⟨h0,cur,k1.trans h1,h2,h3,h4,λ o ho hi=>h5 o ho (k2 o hi)⟩
def Db.set (h:Db R w sz e fs ts) {j n g c:Nat} (xo:Gx R' w' sz e n (.tok n g c)) (TY:∀ i f c,nth ts i=some (.tok f g c)->i=j)
  (hold:∀ i f b c,i≠j->nth ts i=some (.tok f b c)->w'.heap[b]?=w.heap[b]?/\∀ o,R'.I b o->R.I b o):Db R' w' sz e (aC fs j n) (aC ts j (.tok n g c)):=by
 obtain ⟨h1,h2,h3⟩:=h;refine ⟨by simp [h1],λ i i' f1 b c1 f2 c2 q1 q2=>?_,λ i f1 t1 q1 q2=>?_⟩
 .rcases df q1 with ⟨n1,e1,_⟩|⟨n1,q1⟩
  .cases e1;rcases df q2 with ⟨n2,_,_⟩|⟨n2,q2⟩
   .exact n1.symm.trans n2
   .exact absurd (TY _ _ _ q2).symm n2
  .rcases df q2 with ⟨n2,e2,_⟩|⟨n2,q2⟩
   .cases e2;exact (TY _ _ _ q1).trans n2
   .exact h2 i i' _ _ _ _ _ q1 q2
 .rcases df q1 with ⟨n1,e1,_⟩|⟨n1,q1⟩
  .rcases df q2 with ⟨_,e2,_⟩|⟨n2,_⟩
   .subst e1 e2;exact xo
   .exact absurd n1 n2
  .rcases df q2 with ⟨n2,_,_⟩|⟨n2,q2⟩
   .exact absurd n2 n1
   .exact (h3 i f1 t1 q1 q2).of λ f b c ht=>by subst ht; exact hold i f b c (adj n2) q2
end ops
section lists
def Dq (c us:List α) (n p sz off:Nat) (hn:n<=c.length) (hp:p+sz<=n) (ho:off+us.length<=sz) :
  (c.take (p+off)++us++c.drop (p+off+us.length)).take n =
   (c.take n).take p++((((c.take n).drop p).take sz).take off++us++(((c.take n).drop p).take sz).drop (off+us.length))++(c.take n).drop (p+sz):=by
 apply ad9;intro j;simp only [List.getElem?_append,ab5,ad6,aaL,acg,acL];by_cases h1:j < p
 .rw [if_pos (by omega),if_pos (by omega),if_pos (by omega),if_pos (by omega),if_pos (by omega),if_pos (by omega),if_pos (by omega),if_pos (by omega)]
 .by_cases h2:j < p+off
  .rw [if_pos (by omega),if_pos (by omega),if_pos (by omega),if_pos (by omega),if_pos (by omega),if_neg (by omega),if_pos (by omega),if_pos (by omega),if_pos (by omega),if_pos (by omega),if_pos (by omega)];congr 1; omega
  .by_cases h3:j < p+off+us.length
   .rw [if_pos (by omega),if_pos (by omega),if_neg (by omega),if_pos (by omega),if_neg (by omega),if_pos (by omega),if_neg (by omega)];congr 1; omega
   .by_cases h4:j < p+sz
    .rw [if_pos (by omega),if_neg (by omega),if_pos (by omega),if_neg (by omega),if_neg (by omega),if_pos (by omega),if_pos (by omega)];congr 1; omega
    .by_cases h5:j < n
     .rw [if_pos (by omega),if_neg (by omega),if_neg (by omega),if_pos (by omega)];congr 1; omega
     .rw [if_neg (by omega),if_neg (by omega),if_neg (by omega)]
def xq {sz:Nat}:∀ {es:List AV} {i:Nat} {e:AV},ig sz es->nth es i=some e->((aH es).drop (i*sz)).take sz=e.cells
 |[],_,_,_,h=>by simp [nth] at h
 |x::es,0,e,h,hi=>by
  simp only [nth] at hi;cases hi;have h1:=(h x (by simp)).1;rw [acM,List.drop_zero];simp only [aH];rw [<- h1,List.take_left]
 |x::es,i+1,e,h,hi=>by
  have h1:=(h x (by simp)).1;have ih:=xq (i:=i) (λ y hy=>h y (by simp [hy])) (show nth es i=some e from hi);simp only [aH];rw [show (i+1)*sz=x.cells.length+i*sz by rw [h1,acP]; omega,aee,acO (by omega),adO,adh];exact ih
def JX (h:ig sz l) (k:ig sz r):ig sz (l++r):=λ e he=>by
 rcases acV.1 he with he|he
 .exact h e he
 .exact k e he
def qD {sz:Nat}:∀ {es:List AV} (i:Nat),ig sz es->aH (es.take i)=(aH es).take (i*sz)
 |[],i,_=>by simp [aH]
 |e::es,0,_=>by simp [aH]
 |e::es,i+1,h=>by
  have h1:=(h e (by simp)).1;simp only [List.take_succ_cons,aH];rw [qD i (λ y hy=>h y (by simp [hy])),show (i+1)*sz=e.cells.length+i*sz by rw [h1,acP]; omega,List.take_append,adh,aeT (by omega:e.cells.length<=e.cells.length+i*sz)]
def Bz {sz:Nat}:∀ {es:List AV} (i:Nat),ig sz es->aH (es.drop i)=(aH es).drop (i*sz)
 |[],i,_=>by simp [aH]
 |e::es,0,_=>by simp [aH]
 |e::es,i+1,h=>by
  have h1:=(h e (by simp)).1;simp only [List.drop_succ_cons,aH];rw [Bz i (λ y hy=>h y (by simp [hy])),show (i+1)*sz=e.cells.length+i*sz by rw [h1,acP]; omega,aee,acO (by omega:e.cells.length<=e.cells.length+i*sz),adO,adh]
def eE (h:ig sz es):(aH es).length=es.length*sz:=by
 induction es with
 |nil=>simp [aH]
 |cons e es ih=>
  have h1:=(h e (by simp)).1;have:=ih (λ x hx=>h x (by simp [hx]));simp only [aH,aaL,this,h1,aca,abk];omega
def MV {i:Nat} (h:ig sz es) (h1:v.cells.length=sz) (h2:v.bN=true):ig sz (aC es i v):=λ e he=>by
 rw [eY] at he;rcases aed he with he|rfl
 .exact h e he
 .exact ⟨h1,h2⟩
def BA {i:Nat} (h:ig sz es) (hi:i < es.length) (hv:v.cells.length=sz):aH (aC es i v)=jL (aH es) (i*sz) v.cells:=by
 have JA:i*sz+sz<=es.length*sz:=by
  rw [<- acP];exact aaR _ hi
 rw [eY,List.set_eq_take_append_cons_drop,if_pos hi,mz _ _ _ (by rw [hv,eE h]; exact JA),eT,qD i h,hv];simp only [aH];rw [Bz (i+1) h,acP,acq]
end lists
section ops
def CN (h:ij E R w G) (cG:nth G id=some (.bO es sz el)) (ck:nth R.obj id=some ro) (hn:ro≠.bK) :
  ∃ b c cur vs,ro=.tok es.length b c 0/\ig sz es/\w.heap[b]?=some (.cells cur el (0,0))/\es.length<=c/\c<=maxLen/\cur.size=c*sz/\(∀ o,¬ R.I b o)/\bj R w (aH es) vs/\(∀ v∈vs,v.oneCell'=true)/\cur.toList.take (es.length*sz)=vs:=by
 have hr:=h.obj id _ _ cG ck;cases ro with
 |none=>exact hr.elim
 |bK=>exact absurd rfl hn
 |cN b=>exact hr.elim
 |bC _=>exact hr.elim
 |tok f b c k=>
  obtain ⟨rfl,rfl,h1,cur,vs,h2,h3,h4,h5,h6,h7,h8,h9⟩:=hr;exact ⟨b,c,cur,vs,rfl,h1,h2,h3,h4,h5,h6,h7,h8,h9⟩
def MW {i sz:Nat} (h:Gt E s id f i sz t=some (true,v)) :
  ∃ es el e,nth s.G id=some (.bO es sz el)/\f=es.length/\nth es i=some e/\ky e v:=by
 unfold Gt at h;split at h
 .rename_i es cr el cG;split at h
  .rename_i p hp;split at h
   .rename_i iJ;have iJ:=aad iJ;subst iJ;injection h with h;injection h with h1 h2;simp only [aag,decide_eq_true_eq] at h1;obtain ⟨⟨h3,h4⟩,h5⟩:=h1;obtain ⟨e,he⟩:∃ e,nth es i=some e:=⟨es[i],by rw [bk]; exact aaN h4⟩;have hd:an es i=e:=by simp [an,he]
    rw [hd] at h5 h2;rw [<- h2];exact ⟨es,el,e,cG,h3,he,p.fF h5⟩
   .cases h
  .split at h
   .rename_i iJ;have iJ:=aad iJ;subst iJ;injection h with h;injection h with h1 h2;simp only [aag,decide_eq_true_eq] at h1;obtain ⟨h3,h4⟩:=h1;obtain ⟨e,he⟩:∃ e,nth es i=some e:=⟨es[i],by rw [bk]; exact aaN h4⟩;have hd:an es i=e:=by simp [an,he]
    rw [hd] at h2;rw [<- h2];exact ⟨es,el,e,cG,h3,he,ky.refl e⟩
   .cases h
 .cases h
def Pd (h:ij E R w G) {o f i off:Nat} (cG:nth G id=some (.jv rows sz el)) (ck:nth R.obj id=some ro) (gl:TA b o j f i off sz ro) (hf:f=(rowOf rows j).length) :
  ∃ ts c cur vs,ro=.bC ts/\nth ts j=some (.tok f b c)/\nth rows j=some (rowOf rows j)/\o=i*sz+off/\jX sz (rowOf rows j)/\w.heap[b]?=some (.cells cur el (0,0))/\f<=c/\c<=maxLen/\cur.size=c*sz/\(∀ o,¬ R.I b o)/\bj R w (aH (rowOf rows j)) vs/\(∀ v∈vs,v.oneCell'=true)/\cur.toList.take (f*sz)=vs:=by
 have hr:=h.obj id _ _ cG ck;cases ro with
 |none=>exact hr.elim
 |bK=>exact hr.elim
 |cN b=>exact hr.elim
 |tok _ _ _ _=>exact hr.elim
 |bC ts=>
  obtain ⟨t,k1,k2⟩:=gl;obtain ⟨h1,h2,h3⟩:=hr;have du:=bX k1;have qU:nth rows j=some rows[j]:=by rw [bk]; exact aaN (by omega)
  have he:rowOf rows j=rows[j]:=by unfold rowOf; rw [qU]
  have h4:=h3 j _ t qU k1;rw [<- he] at h4 qU;cases t with
  |bK=>exact k2.elim
  |full _=>exact h4.elim
  |tok f' b' c=>
   obtain ⟨h5,h6,cur,vs,q1,q2,q3,q4,q5,q6,q7,q8⟩:=h4;obtain ⟨e1,e2⟩:=k2.2 (by omega);subst e1;have e3:f'=f:=by omega
   subst e3;exact ⟨ts,c,cur,vs,rfl,k1,qU,e2,h6,q1,q2,q3,q4,q5,q6,q7,q8⟩
def MX {i sz:Nat} (h:Gu E s id j f i sz t=some (true,v)) :
  ∃ rows el e,nth s.G id=some (.jv rows sz el)/\f=(rowOf rows j).length/\nth (rowOf rows j) i=some e/\ky e v:=by
 unfold Gu at h;split at h
 .rename_i rows cr el cG;split at h
  .rename_i p hp;split at h
   .rename_i iJ;have iJ:=aad iJ;subst iJ;injection h with h;injection h with h1 h2;simp only [aag,decide_eq_true_eq] at h1;obtain ⟨⟨h3,h4⟩,h5⟩:=h1;obtain ⟨e,he⟩:∃ e,nth (rowOf rows j) i=some e:=⟨(rowOf rows j)[i],by rw [bk]; exact aaN h4⟩;have hd:an (rowOf rows j) i=e:=by simp [an,he]
    rw [hd] at h5 h2;rw [<- h2];exact ⟨rows,el,e,cG,h3,he,p.fF h5⟩
   .cases h
  .split at h
   .rename_i iJ;have iJ:=aad iJ;subst iJ;injection h with h;injection h with h1 h2;simp only [aag,decide_eq_true_eq] at h1;obtain ⟨h3,h4⟩:=h1;obtain ⟨e,he⟩:∃ e,nth (rowOf rows j) i=some e:=⟨(rowOf rows j)[i],by rw [bk]; exact aaN h4⟩;have hd:an (rowOf rows j) i=e:=by simp [an,he]
    rw [hd] at h2;rw [<- h2];exact ⟨rows,el,e,cG,h3,he,ky.refl e⟩
   .cases h
 .cases h
def Pe {l:List α} {x:α} (h:nth l i=some x):x∈l:=by
 rw [bk] at h;exact List.mem_of_getElem? h
def H4 {sz:Nat} (h:i < n):i*sz+sz<=n*sz:=by
 rw [<- acP];exact aaR _ h
def MY (h:bG E R w β s a) (t:TypeId) (x:Operand) (ho:o.op=.load t x) (hl:Gv E s t (cK E s.ae x)=some (true,v)) :
  c8 E R w β s a o (s.put o.dst (.v v)):=by
 have rx:=bi h x;unfold Gv at hl;split at hl
 .rename_i id f i off sz ty hx;rw [hx] at rx;split at hl
  .rename_i ti c ve Xz hg;split at hl
   .rename_i l hs;split at hl
    .rename_i r hm;obtain ⟨rfl,rfl⟩:=cL hl;obtain ⟨es,el,e,cG,hfe,he,Rb⟩:=MW hg;have gu:Rel R w (.gp id f i off sz ty) (a.eval x):=rx;generalize kR:a.eval x=xv at gu;cases gu with
     | @gp _ _ _ _ _ b o' _ ro ck gl=>
     obtain ⟨b',c',cur,vs,rfl,g1,g2,g3,g4,g5,g6,g7,g8,g9⟩:=CN h.g cG ck (λ k=>by subst k; exact gl);obtain ⟨rfl,rfl⟩:=gl.2 hfe;have hem:=g1 e (Pe he);have iR:bj R w e.cells ((vs.drop (i*sz)).take sz):=by
      rw [<- xq g1 he];exact (g7.drop _).take _
     have hw:=(Rb.cells hem.2).rel iR;obtain ⟨k1,k2,k3,k4⟩:=vC hs hw (λ y hy=>g8 y (acd (ab3 hy)));obtain ⟨c,hc,hrr⟩:=qC (E:=E) Xz (b:=b) (off:=i*sz+off) k1 k2 k3 (λ j y hy=>by
      have h1:=k4 j y hy;rw [ab5] at h1;split at h1
      .rw [ad6,<- g9,ab5] at h1;split at h1
       .rw [cell_of_row w b _ cur el (0,0) g2,ad7,<- ab7];exact h1
       .cases h1
      .cases h1) hm
     refine aM h (c:=c) ?_ hrr;simp [execOp,ho,Instr.loadAt,kR,ad4,hc]
    .cases hl
   .cases hl
  .cases hl
 .rename_i id j f i off sz ty hx;rw [hx] at rx;split at hl
  .rename_i ti c ve Xz hg;split at hl
   .rename_i l hs;split at hl
    .rename_i r hm;obtain ⟨rfl,rfl⟩:=cL hl;obtain ⟨rows,el,e,cG,hfe,he,Rb⟩:=MX hg;have gu:Rel R w (.rp id j f i off sz ty) (a.eval x):=rx;generalize kR:a.eval x=xv at gu;cases gu with
     | @rp _ _ _ _ _ _ b o' _ ro ck gl=>
     obtain ⟨ts,c',cur,vs,rfl,k1,k2,rfl,Tb,g2,g3,g4,g5,g6,g7,g8,g9⟩:=Pd h.g cG ck gl hfe;have g1:=Tb.g;subst hfe;have hem:=g1 e (Pe he);have iR:bj R w e.cells ((vs.drop (i*sz)).take sz):=by
      rw [<- xq g1 he];exact (g7.drop _).take _
     have hw:=(Rb.cells hem.2).rel iR;obtain ⟨k1,k2,k3,k4⟩:=vC hs hw (λ y hy=>g8 y (acd (ab3 hy)));obtain ⟨c,hc,hrr⟩:=qC (E:=E) Xz (b:=b) (off:=i*sz+off) k1 k2 k3 (λ j' y hy=>by
      have h1:=k4 j' y hy;rw [ab5] at h1;split at h1
      .rw [ad6,<- g9,ab5] at h1;split at h1
       .rw [cell_of_row w b _ cur el (0,0) g2,ad7,<- ab7];exact h1
       .cases h1
      .cases h1) hm
     refine aM h (c:=c) ?_ hrr;simp [execOp,ho,Instr.loadAt,kR,ad4,hc]
    .cases hl
   .cases hl
  .cases hl
 .split at hl
  .rename_i v' hv;obtain ⟨h1,rfl⟩:=cL hl;exact Q3 h t x ho hv
  .cases hl
def bG.ad0 (h:bG E R w β s a) {sz:Nat} {vs':List Value} (cG:nth s.G id=some (.jv rows sz el)) (ck:nth R.obj id=some (.bC ts)) (Yf:nth ts j=some (.tok f b c))
  (hb:w.heap[b]?=some (.cells cur el (0,0))) (hlen:row'.length=f) (ql:jX sz row') (iJ:xn.size=cur.size) (hr:bj R w (aH row') vs') (h1:∀ v∈vs',v.oneCell'=true) (ht:xn.toList.take (f*sz)=vs') :
  bG E R (w.setRow b xn) β (s.cM (aC s.G id (.jv (aC rows j row') sz el))) a/\Step R w β s.boxes R (w.setRow b xn) β s.boxes:=by
 obtain ⟨m1,m2,m3⟩:=h.g.obj id _ _ cG ck;have du:=bX Yf;have qU:nth rows j=some rows[j]:=by rw [bk]; exact aaN (by omega)
 obtain ⟨_,q1,ad1,vs0,p1,p2,p3,p4,p5,p6,p7,p8⟩:=m3 j _ _ qU Yf;rw [hb] at p1;cases p1;have hex:=kQ (R:=R) (w:=w) p5 xn;have qV:RO.has (.bC ts) b:=⟨j,f,c,Yf⟩;have Dr:∀ k cs,fm s.boxes k=some cs->β k≠b:=λ k cs hk e=>(h.b.box k cs hk).2.2 ⟨id,_,ck,by rw [e]; exact qV⟩
 refine ⟨⟨⟨by simp [St.cM,h.g.len],λ nV go ro hg nu=>?_,h.g.inj,λ b' o' wC=>by have:=h.g.wf b' o' wC; simp; omega,λ g iO hg=>(h.g.fU g iO hg).mono hex,h.g.lo⟩,?_,h.t.mono hex,h.n,h.d⟩,?_⟩
 .rcases df hg with ⟨rfl,rfl,_⟩|⟨de,Jy⟩
  .rw [ck] at nu;cases nu;refine ⟨by rw [iI]; exact m1,m2,λ j' row t hrj Yg=>?_⟩;rcases df hrj with ⟨rfl,rfl,_⟩|⟨hnj,anM⟩
   .rw [Yf] at Yg;cases Yg;exact ⟨hlen.symm,ql,xn,vs',setRow_heap w _ _ _ _ (0,0) hb,p2,p3,by rw [iJ]; exact p4,p5,hr.mono hex,h1,ht⟩
   .have h4:=m3 j' row t anM Yg;cases t with
    |bK=>exact h4
    |full _=>exact h4
    |tok f1 b1 c1=>
     obtain ⟨h5,h6,anN,vs1,k1,k2,k3,k4,k5,k6,k7,k8⟩:=h4;have TG:b1≠b:=λ e=>hnj (m2 j' j f1 b1 c1 f c Yg (by rw [e]; exact Yf)).symm
     exact ⟨h5,h6,anN,vs1,(setRow_other w _ b1 _ TG).trans k1,k2,k3,k4,k5,k6.mono hex,k7,k8⟩
  .refine (h.g.obj nV go ro Jy nu).mono hex (λ b' nt=>setRow_other w _ b' _ (λ e=>de ?_)) (λ _ _ _ hi=>hi);subst e;exact h.g.inj id nV _ _ b' ck nu qV nt
 .exact h.b.keep hex (λ k iO mr=>setRow_other w _ _ _ (Dr k iO mr)) (λ _ _ _ _ hi=>hi) (λ _ _ _ hl=>hl)
 .have qS:Own R β s.boxes b:=.inl ⟨id,_,ck,qV⟩;exact ⟨hex,rfl,rfl,rfl,by simp,λ b' _ hn=>setRow_other w _ b' _ (λ e=>hn (e ▸ qS)),λ _ _ hb=>hb,λ b o hi _ _=>hi⟩
def bG.ad2 (h:bG E R w β s a) {sz:Nat} {vs':List Value} (cG:nth s.G id=some (.bO es sz el)) (ck:nth R.obj id=some (.tok f b c 0))
  (hb:w.heap[b]?=some (.cells cur el (0,0))) (hlen:es'.length=es.length) (ql:ig sz es') (iJ:xn.size=cur.size) (hr:bj R w (aH es') vs') (h1:∀ v∈vs',v.oneCell'=true) (ht:xn.toList.take (f*sz)=vs') :
  bG E R (w.setRow b xn) β (s.cM (aC s.G id (.bO es' sz el))) a/\Step R w β s.boxes R (w.setRow b xn) β s.boxes:=by
 obtain ⟨_,q0,q1,ad1,vs0,p1,p2,p3,p4,p5,p6,p7,p8⟩:=h.g.obj id _ _ cG ck;rw [hb] at p1;cases p1;have hex:=kQ (R:=R) (w:=w) p5 xn;have Dr:∀ k cs,fm s.boxes k=some cs->β k≠b:=λ k cs hk e=>(h.b.box k cs hk).2.2 ⟨id,_,ck,by rw [e]; rfl⟩
 refine ⟨⟨⟨by simp [St.cM,h.g.len],λ nV go ro hg nu=>?_,h.g.inj,λ b' o' wC=>by have:=h.g.wf b' o' wC; simp; omega,λ g iO hg=>(h.g.fU g iO hg).mono hex,h.g.lo⟩,?_,h.t.mono hex,h.n,h.d⟩,?_⟩
 .rcases df hg with ⟨rfl,rfl,_⟩|⟨de,Jy⟩
  .rw [ck] at nu;cases nu;exact ⟨rfl,by rw [hlen]; exact q0,ql,xn,vs',setRow_heap w _ _ _ _ (0,0) hb,p2,p3,by rw [iJ]; exact p4,p5,hr.mono hex,h1,ht⟩
  .refine (h.g.obj nV go ro Jy nu).mono hex (λ b' nt=>setRow_other w _ b' _ (λ e=>de ?_)) (λ _ _ _ hi=>hi);subst e;exact h.g.inj id nV _ _ b' ck nu rfl nt
 .exact h.b.keep hex (λ k iO mr=>setRow_other w _ _ _ (Dr k iO mr)) (λ _ _ _ _ hi=>hi) (λ _ _ _ hl=>hl)
 .have qS:Own R β s.boxes b:=.inl ⟨id,_,ck,rfl⟩;exact ⟨hex,rfl,rfl,rfl,by simp,λ b' _ hn=>setRow_other w _ b' _ (λ e=>hn (e ▸ qS)),λ _ _ hb=>hb,λ b o hi _ _=>hi⟩
def bG.Yh (h:bG E R w β s a) {i off:Nat} {sz:Nat} {us:List Value} {e':AV} (cG:nth s.G id=some (.bO es sz el)) (ck:nth R.obj id=some (.tok es.length b c 0))
  (hb:w.heap[b]?=some (.cells cur el (0,0))) (ql:ig sz es) (hle:es.length<=c) (xm:cur.size=c*sz) (hr:bj R w (aH es) vs) (h1:∀ v∈vs,v.oneCell'=true) (ht:cur.toList.take (es.length*sz)=vs) (hi:i < es.length)
  (h2:∀ v∈us,v.oneCell'=true) (FV:off+us.length<=sz) (yA:e'.cells.length=sz) (hn':e'.bN=true) (hre:bj R w e'.cells (((vs.drop (i*sz)).take sz).take off++us++((vs.drop (i*sz)).take sz).drop (off+us.length))) :
  bG E R (w.setRow b ⟨cur.toList.take (i*sz+off)++us++cur.toList.drop (i*sz+off+us.length)⟩) β (s.cM (aC s.G id (.bO (aC es i e') sz el))) a /\
   Step R w β s.boxes R (w.setRow b ⟨cur.toList.take (i*sz+off)++us++cur.toList.drop (i*sz+off+us.length)⟩) β s.boxes:=by
 have JA:=H4 (sz:=sz) hi;have Pf:es.length*sz<=cur.toList.length:=by
  rw [show cur.toList.length=cur.size from ab9,xm];exact aaR _ hle
 have O9:vs.length=es.length*sz:=by rw [<- hr.length,eE ql]
 refine h.ad2 cG ck hb (iI _ _ _) (MV ql yA hn') ?_ (vs':=vs.take (i*sz)++(((vs.drop (i*sz)).take sz).take off++us++((vs.drop (i*sz)).take sz).drop (off+us.length))++vs.drop (i*sz+sz)) ?_ ?_ ?_
 .rw [acu,<- ab9];simp only [aaL,acg,acL];omega
 .rw [BA ql hi yA,mz _ _ _ (by rw [yA,eE ql]; exact JA),yA];exact ((hr.take _).append hre).append (hr.drop _)
 .intro v hv;simp only [acV] at hv;rcases hv with (hv|((hv|hv)|hv))|hv
  .exact h1 v (ab3 hv)
  .exact h1 v (acd (ab3 (ab3 hv)))
  .exact h2 v hv
  .exact h1 v (acd (ab3 (acd hv)))
  .exact h1 v (acd hv)
 .rw [ady,Dq _ _ _ _ _ _ Pf JA FV,ht]
def bG.Yi (h:bG E R w β s a) {i off:Nat} {sz:Nat} {us:List Value} {e':AV} (cG:nth s.G id=some (.jv rows sz el)) (ck:nth R.obj id=some (.bC ts)) (Yf:nth ts j=some (.tok es.length b c))
  (hb:w.heap[b]?=some (.cells cur el (0,0))) (yG:jX sz es) (hle:es.length<=c) (xm:cur.size=c*sz) (hr:bj R w (aH es) vs) (h1:∀ v∈vs,v.oneCell'=true) (ht:cur.toList.take (es.length*sz)=vs) (hi:i < es.length)
  (h2:∀ v∈us,v.oneCell'=true) (FV:off+us.length<=sz) (yA:e'.cells.length=sz) (hn':e'.bN=true) (nW:e'.closed=true) (hre:bj R w e'.cells (((vs.drop (i*sz)).take sz).take off++us++((vs.drop (i*sz)).take sz).drop (off+us.length))) :
  bG E R (w.setRow b ⟨cur.toList.take (i*sz+off)++us++cur.toList.drop (i*sz+off+us.length)⟩) β (s.cM (aC s.G id (.jv (aC rows j (aC es i e')) sz el))) a /\
   Step R w β s.boxes R (w.setRow b ⟨cur.toList.take (i*sz+off)++us++cur.toList.drop (i*sz+off+us.length)⟩) β s.boxes:=by
 have ql:=yG.g;have JA:=H4 (sz:=sz) hi;have Pf:es.length*sz<=cur.toList.length:=by
  rw [show cur.toList.length=cur.size from ab9,xm];exact aaR _ hle
 have O9:vs.length=es.length*sz:=by rw [<- hr.length,eE ql]
 refine h.ad0 cG ck Yf hb (iI _ _ _) (GG yG yA hn' nW) ?_ (vs':=vs.take (i*sz)++(((vs.drop (i*sz)).take sz).take off++us++((vs.drop (i*sz)).take sz).drop (off+us.length))++vs.drop (i*sz+sz)) ?_ ?_ ?_
 .rw [acu,<- ab9];simp only [aaL,acg,acL];omega
 .rw [BA ql hi yA,mz _ _ _ (by rw [yA,eE ql]; exact JA),yA];exact ((hr.take _).append hre).append (hr.drop _)
 .intro v hv;simp only [acV] at hv;rcases hv with (hv|((hv|hv)|hv))|hv
  .exact h1 v (ab3 hv)
  .exact h1 v (acd (ab3 (ab3 hv)))
  .exact h2 v hv
  .exact h1 v (acd (ab3 (acd hv)))
  .exact h1 v (acd hv)
 .rw [ady,Dq _ _ _ _ _ _ Pf JA FV,ht]
def yH (h:bG E R w β s a) (t:TypeId) (p x:Operand) (ho:o.op=.store t p x) (hd:o.dst=none) {i off sz:Nat} {ty:TypeId} (Q6:cK E s.ae p=.v (.gp id f i off sz ty)) {x':SV} (rx:sR R w β x' (a.eval x)) (hs:ic E s t (.v (.gp id f i off sz ty)) x'=some (true,s')) :
  c8 E R w β s a o s':=by
 have rp:=bi h p;rw [Q6] at rp;have rp':Rel R w (.gp id f i off sz ty) (a.eval p):=rp;generalize hpv:a.eval p=pv at rp';unfold ic at hs;simp only at hs;split at hs
 .rename_i ti v es cr el Xz cG;split at hs
  .rename_i jf;simp only [aag] at jf;obtain ⟨⟨Q5,hlen⟩,MZ⟩:=jf;have hlen:=aad hlen;have MZ:=aad MZ;subst MZ;have rxw:Rel R w v (a.eval x):=rx;obtain ⟨c1,c2⟩:=Rel.cells rxw Q5;have Cd:v.cells.length=(a.eval x).cells.toList.length:=c1.length;cases rp' with
   | @gp _ _ _ _ _ b o' _ ro ck gl=>
   obtain ⟨b',c',cur,vs,rfl,g1,g2,g3,g4,g5,g6,g7,g8,g9⟩:=CN h.g cG ck (λ k=>by subst k; exact gl);have O9:vs.length=es.length*sz:=by rw [<- g7.length,eE g1]
   have Pf:es.length*sz<=cur.toList.length:=by
    rw [show cur.toList.length=cur.size from ab9,g5];exact aaR _ g3
   split at hs
   .rename_i hw;rw [aag] at hw;have FV:=aad hw.1;have hts:=aad hw.2;subst FV;injection hs with hs;injection hs with h1 h2;rw [aag,decide_eq_true_eq,decide_eq_true_eq] at h1;subst h2;obtain ⟨rfl,rfl⟩:=gl.2 h1.1;have JA:=H4 (sz:=sz) h1.2;have cP:=oz (E:=E) (w:=w) Xz (b:=b) (vs:=cur.toList) (off:=i*sz+0) (c:=a.eval x) g2 (by rw [<- Cd]; exact hlen) (by rw [<- Cd]; omega) c2;obtain ⟨r1,r2⟩:=h.Yh (us:=(a.eval x).cells.toList) (off:=0) (i:=i) (e':=v) cG ck g2 g1 g3 g5 g7 g8 g9 h1.2 c2 (by rw [<- Cd]; omega) (by omega) Q5 (by
     rw [afz,adO,ab1,acO (by rw [acg,<- Cd]; omega),aeu];exact c1)
    simp only [afY] at hpv cP r1 r2;refine ⟨.skip,undef,_,R,β,?_,.inr ⟨rfl,rfl⟩,by rw [hd]; exact r1,r2⟩;simp [execOp,ho,Instr.storeAt,hpv,ad4,cP]
   .cases hs
  .cases hs
 .cases hs
def H5 (h:bG E R w β s a) (t:TypeId) (p x:Operand) (ho:o.op=.store t p x) (hd:o.dst=none) {i off sz:Nat} {ty:TypeId} (Q6:cK E s.ae p=.v (.rp id j f i off sz ty)) (rx:sR R w β x' (a.eval x)) (hs:ic E s t (.v (.rp id j f i off sz ty)) x'=some (true,s')) :
  c8 E R w β s a o s':=by
 have rp:=bi h p;rw [Q6] at rp;have rp':Rel R w (.rp id j f i off sz ty) (a.eval p):=rp;generalize hpv:a.eval p=pv at rp';unfold ic at hs;simp only at hs;split at hs
 .rename_i ti v rows cr el Xz cG;split at hs
  .rename_i jf;simp only [aag] at jf;obtain ⟨⟨Q5,hlen⟩,MZ⟩:=jf;have hlen:=aad hlen;have MZ:=aad MZ;subst MZ;have rxw:Rel R w v (a.eval x):=rx;obtain ⟨c1,c2⟩:=Rel.cells rxw Q5;have Cd:v.cells.length=(a.eval x).cells.toList.length:=c1.length;cases rp' with
   | @rp _ _ _ _ _ _ b o' _ ro ck gl=>
   split at hs
   .rename_i hw;rw [aag] at hw;have FV:=aad hw.1;have hts:=aad hw.2;subst FV;injection hs with hs;injection hs with h1 h2;rw [aag,aag,decide_eq_true_eq,decide_eq_true_eq] at h1;obtain ⟨⟨h1a,h1b⟩,h1c⟩:=h1;subst h2;obtain ⟨ts,c',cur,vs,rfl,Yf,qU,rfl,Tb,g2,g3,g4,g5,g6,g7,g8,g9⟩:=Pd h.g cG ck gl h1a;have g1:=Tb.g;have O9:vs.length=(rowOf rows j).length*sz:=by rw [<- g7.length,eE g1]
    have Pf:(rowOf rows j).length*sz<=cur.toList.length:=by
     rw [show cur.toList.length=cur.size from ab9,g5,<- h1a];exact aaR _ g3
    subst h1a;have JA:=H4 (sz:=sz) h1b;have cP:=oz (E:=E) (w:=w) Xz (b:=b) (vs:=cur.toList) (off:=i*sz+0) (c:=a.eval x) g2 (by rw [<- Cd]; exact hlen) (by rw [<- Cd]; omega) c2;obtain ⟨r1,r2⟩:=h.Yi (us:=(a.eval x).cells.toList) (off:=0) (i:=i) (e':=v) cG ck Yf g2 Tb g3 g5 g7 g8 g9 h1b c2 (by rw [<- Cd]; omega) (by omega) Q5 h1c (by
     rw [afz,adO,ab1,acO (by rw [acg,<- Cd]; omega),aeu];exact c1)
    simp only [afY] at hpv cP r1 r2;refine ⟨.skip,undef,_,R,β,?_,.inr ⟨rfl,rfl⟩,by rw [hd]; exact r1,r2⟩;simp [execOp,ho,Instr.storeAt,hpv,ad4,cP]
   .cases hs
  .cases hs
 .cases hs
def JY (h:bG E R w β s a) (t:TypeId) (p x:Operand) (ho:o.op=.store t p x) (hd:o.dst=none) (hs:ic E s t (cK E s.ae p) (cK E s.ae x)=some (true,s')) :
  c8 E R w β s a o s':=by
 have FW:=hs;unfold ic at hs;split at hs
 .rename_i id f i off sz ty Q6;rw [Q6] at FW;exact yH h t p x ho hd Q6 (bi h x) FW
 .rename_i id j f i off sz ty Q6;rw [Q6] at FW;exact H5 h t p x ho hd Q6 (bi h x) FW
 .split at hs
  .rename_i JB hv;obtain ⟨h1,rfl⟩:=cL hs;exact MJ h t p x ho hd hv
  .cases hs
def ak.reset (R:ak) (id:Nat) (ro:RO):ak:=⟨R.I,aC R.obj id ro⟩
def Ds (cG:nth R.obj id=some r0) (ck:∀ b,ro.has b->b=g) {b:Nat} (hl:Live (R.reset id ro) b):b=g\/Live R b:=by
 obtain ⟨i,r,h1,h2⟩:=hl;rcases aE cG h1 with ⟨_,rfl⟩|⟨_,h1⟩
 .exact .inl (ck b h2)
 .exact .inr ⟨i,r,h1,h2⟩
def bG.Pg (h:bG E R w β s a) {cur:Array Value} {vs:List Value} {es':List AV} {elem:TypeId} {cap id:Nat} (hg:nth s.G id=some (.bO es sz elem)) (cG:nth R.obj id=some r0) (hf:∀ b c,dy r0 (.tok es'.length b c 0))
  (hn:es'.length<=cap) (hm:cap<=maxLen) (hs:cur.size=cap*sz) (ql:ig sz es') (hr:bj R w (aH es') vs) (h1:∀ v∈vs,v.oneCell'=true) (ht:cur.toList.take (es'.length*sz)=vs) :
  bG E (R.reset id (.tok es'.length w.heap.size cap 0)) (w.alloc (.cells cur elem)) β (s.cM (aC s.G id (.bO es' sz elem))) a /\
  Step R w β s.boxes (R.reset id (.tok es'.length w.heap.size cap 0)) (w.alloc (.cells cur elem)) β s.boxes:=by
 have e:Ext R w (R.reset id (.tok es'.length w.heap.size cap 0)) (w.alloc (.cells cur elem)):=
  ⟨λ _ _ h=>h,λ b o hi=>dv (heap_alloc_old w _ b (h.g.wf b o hi)) o,λ i r hr=>by
   by_cases ei:id=i
   .subst ei;rw [cG] at hr;cases hr;exact ⟨_,az cG,hf _ _⟩
   .exact ⟨r,by rw [ak.reset,bE ei]; exact hr,dy.refl r⟩,.old λ b hb=>heap_alloc_old w _ b hb⟩
 have old:∀ b,b < w.heap.size->(w.alloc (.cells cur elem)).heap[b]?=w.heap[b]?:=λ b hb=>heap_alloc_old w _ b hb
 have new:(w.alloc (.cells cur elem)).heap[w.heap.size]?=some (.cells cur elem (0,0)):=heap_alloc_new w _;have live:∀ b,b < w.heap.size->Live (R.reset id (.tok es'.length w.heap.size cap 0)) b->Live R b:=λ b hb hl=>by
  rcases Ds (g:=w.heap.size) (ro:=.tok es'.length w.heap.size cap 0) cG (λ _ h=>h) hl with rfl|hl
  .omega
  .exact hl
 refine ⟨⟨⟨by simp [St.cM,ak.reset,h.g.len],λ i gg r ye h2=>?_,λ i j ri rj b ye h2 b1 b2=>?_,λ b o hi=>?_,λ g cs hg=>(h.g.fU g cs hg).mono e,h.g.lo⟩,?_,h.t.mono e,h.n,h.d.mono e⟩,?_⟩
 .rcases aE cG h2 with ⟨rfl,rfl⟩|⟨de,h2⟩
  .simp only [St.cM] at ye;rw [az hg] at ye;cases ye;exact ⟨rfl,rfl,ql,cur,vs,new,hn,hm,hs,λ o hi=>by have:=h.g.wf _ _ hi; omega,hr.mono e,h1,ht⟩
  .simp only [St.cM] at ye;rw [bE (adj de)] at ye;exact (h.g.obj i gg r ye h2).mono e (λ b hb=>old b (h.g.dS ⟨i,r,h2,hb⟩)) (λ b o _ hi=>hi)
 .rcases aE cG ye with ⟨g3,e1⟩|⟨g3,g1⟩
  .rcases aE cG h2 with ⟨g4,e2⟩|⟨g4,g2⟩
   .omega
   .have:=h.g.dS ⟨j,rj,g2,b2⟩;rw [e1] at b1;simp [RO.has] at b1;omega
  .rcases aE cG h2 with ⟨g4,e2⟩|⟨g4,g2⟩
   .have:=h.g.dS ⟨i,ri,g1,b1⟩;rw [e2] at b2;simp [RO.has] at b2;omega
   .exact h.g.inj i j ri rj b g1 g2 b1 b2
 .have:=h.g.wf b o hi;simp;omega
 .exact h.b.keep e (λ k cs hk=>old _ (h.gF (.inr ⟨k,cs,hk,rfl⟩))) (λ k cs o hk hi=>hi) (λ k cs hk hl=>live _ (h.gF (.inr ⟨k,cs,hk,rfl⟩)) hl)
 .refine ⟨e,rfl,rfl,rfl,by simp,λ b hb _=>old b hb,λ b hb ho=>?_,λ b o hi hb _=>hi⟩;rcases ho with ho|ho
  .exact .inl (live b hb ho)
  .exact .inr ho
def bG.ad5 (h:bG E R w β s a) {cur:Array Value} {vs:List Value} {es':List AV} {elem:TypeId} {cap id:Nat} (hg:nth s.G id=some (.bO es sz elem)) (cG:nth R.obj id=some r0) (hf:∀ b c,dy r0 (.tok es'.length b c 0))
  (hn:es'.length<=cap) (hm:cap<=maxLen) (hs:cur.size=cap*sz) (ql:ig sz es') (hr:bj R w (aH es') vs) (h1:∀ v∈vs,v.oneCell'=true) (ht:cur.toList.take (es'.length*sz)=vs) :
  bG E (R.reset id (.tok es'.length w.heap.size cap 0)) (w.drew.alloc (.cells cur elem)) β (s.cM (aC s.G id (.bO es' sz elem))) a /\
  Step R w β s.boxes (R.reset id (.tok es'.length w.heap.size cap 0)) (w.drew.alloc (.cells cur elem)) β s.boxes:=
 have ⟨e,h2,h3⟩:=h.drew;have ⟨r1,r2⟩:=h2.Pg hg cG hf hn hm hs ql (hr.mono e) h1 ht
 ⟨r1,h3.trans r2⟩
def bG.Yj (h:bG E R w β s a) {cur2:Array Value} {vs:List Value} {es':List AV} {elem:TypeId} {id g c:Nat} (hg:nth s.G id=some (.bO es sz elem)) (cG:nth R.obj id=some (.tok es.length g c 0)) (du:es.length < es'.length) (hn:es'.length<=c)
  (mA:w.heap[g]?=some (.cells cur elem (0,0))) (hs:cur2.size=cur.size) (ql:ig sz es') (hr:bj R w (aH es') vs) (h1:∀ v∈vs,v.oneCell'=true) (ht:cur2.toList.take (es'.length*sz)=vs) :
  bG E (R.reset id (.tok es'.length g c 0)) (w.setRow g cur2) β (s.cM (aC s.G id (.bO es' sz elem))) a /\
  Step R w β s.boxes (R.reset id (.tok es'.length g c 0)) (w.setRow g cur2) β s.boxes:=by
 obtain ⟨_,q0,q1,ad1,vs0,p1,p2,p3,p4,p5,p6,p7,p8⟩:=h.g.obj id _ _ hg cG;rw [mA] at p1;cases p1;have Dn:Live R g:=⟨id,_,cG,rfl⟩;have old:∀ b,b≠g->(w.setRow g cur2).heap[b]?=w.heap[b]?:=λ b hb=>setRow_other w g b cur2 hb
 have new:(w.setRow g cur2).heap[g]?=some (.cells cur2 elem (0,0)):=setRow_heap w g cur cur2 elem (0,0) mA;have e:Ext R w (R.reset id (.tok es'.length g c 0)) (w.setRow g cur2):=by
  have e0:=kQ (R:=R) (w:=w) p5 cur2;refine ⟨λ _ _ h=>h,e0.cell,λ i r hr=>?_,e0.lp⟩;by_cases ei:id=i
  .subst ei;rw [cG] at hr;cases hr;exact ⟨_,az cG,by omega,λ e=>by omega⟩
  .exact ⟨r,by rw [ak.reset,bE ei]; exact hr,dy.refl r⟩
 have live:∀ b,Live (R.reset id (.tok es'.length g c 0)) b->Live R b:=λ b hl=>by
  rcases Ds (g:=g) (ro:=.tok es'.length g c 0) cG (λ _ h=>h) hl with rfl|hl
  .exact Dn
  .exact hl
 have xp:∀ k cs,fm s.boxes k=some cs->β k≠g:=λ k cs hk eq=>(h.b.box k cs hk).2.2 (eq ▸ Dn)
 refine ⟨⟨⟨by simp [St.cM,ak.reset,h.g.len],λ i gg r ye h2=>?_,λ i j ri rj b ye h2 b1 b2=>?_,λ b o hi=>?_,λ g cs hg=>(h.g.fU g cs hg).mono e,h.g.lo⟩,?_,h.t.mono e,h.n,h.d.mono e⟩,?_⟩
 .rcases aE cG h2 with ⟨rfl,rfl⟩|⟨de,h2⟩
  .simp only [St.cM] at ye;rw [az hg] at ye;cases ye;exact ⟨rfl,rfl,ql,cur2,vs,new,hn,p3,by rw [hs]; exact p4,p5,hr.mono e,h1,ht⟩
  .simp only [St.cM] at ye;rw [bE (adj de)] at ye;have hbg:∀ b,r.has b->b≠g:=λ b hb eq=>de (h.g.inj i id _ _ b h2 cG hb (by rw [eq]; rfl))
   exact (h.g.obj i gg r ye h2).mono e (λ b hb=>old b (hbg b hb)) (λ b o hb hi=>hi)
 .rcases aE cG ye with ⟨g3,e1⟩|⟨g3,g1⟩
  .rcases aE cG h2 with ⟨g4,e2⟩|⟨g4,g2⟩
   .omega
   .rw [e1] at b1;exact g3.trans (h.g.inj id j _ _ b cG g2 b1 b2)
  .rcases aE cG h2 with ⟨g4,e2⟩|⟨g4,g2⟩
   .rw [e2] at b2;exact (h.g.inj i id _ _ b g1 cG b1 b2).trans g4.symm
   .exact h.g.inj i j ri rj b g1 g2 b1 b2
 .have:=h.g.wf b o hi;simpa using this
 .exact h.b.keep e (λ k cs hk=>old _ (xp k cs hk)) (λ k cs o hk hi=>hi) (λ k cs hk hl=>live _ hl)
 .refine ⟨e,rfl,rfl,rfl,by simp,λ b hb AO=>old b (λ eq=>AO (.inl (eq ▸ Dn))),λ b hb ho=>?_,λ b o hi hb AO=>hi⟩;rcases ho with ho|ho
  .exact .inl (live b ho)
  .exact .inr ho
def bG.TZ (h:bG E R w β s a) {cur:Array Value} {vs:List Value} {es:List AV} {elem:TypeId} {sz cap:Nat} (hn:es.length<=cap) (hm:cap<=maxLen) (hs:cur.size=cap*sz) (ql:ig sz es) (hr:bj R w (aH es) vs) (h1:∀ v∈vs,v.oneCell'=true) (ht:cur.toList.take (es.length*sz)=vs) :
  bG E (R.add (.tok es.length w.heap.size cap 0)) (w.alloc (.cells cur elem)) β (s.gj (.bO es sz elem)) a:=
 h.qT (.cells cur elem) (.bO es sz elem) (.tok es.length w.heap.size cap 0) (by exact λ _ h=>h)
  ⟨rfl,rfl,ql,cur,vs,heap_alloc_new w _,hn,hm,hs,λ o hi=>by have:=h.g.wf _ _ hi; omega,hr.mono (kI h.g.wf _ _),h1,ht⟩
def Cg (h:bG E R w β s a) (t:TypeId) (x y:Operand) (ho:o.op=.makeSlice t x y) {i:TI} (hi:E.ti t=some i) {n m:Int} (hx:cK E s.ae x=.v (.int k n)) (hy:cK E s.ae y=.v (.int k' m))
  (hk:i.k=.sl elem esz ag wI (some z)) (hz:z.cells.length=esz) (Jz:1<=esz) (yf:z.bN=true) (yg:z.closed=true) (hc:0<=n/\n<=m/\m<=140737488355328/\m*wI<=140737488355328) :
  c8 E R w β s a o ((s.gj (.bO (aa5 n.toNat z) esz elem)).put o.dst (.v (.eK s.G.length n.toNat 0 esz n.toNat))):=by
 obtain ⟨us,z1,z2,cP⟩:=wJ h t x y ho hi hx hy hk hz Jz yf hc;have XA:n.toNat<=m.toNat:=by omega
 have ql:=(jO (n:=m.toNat) hz yf yg).g;have hul:us.length=m.toNat*esz:=by rw [<- z1.length,eE ql,adm]
 have Pf:(aa5 n.toNat z).length=n.toNat:=adm;have htk:(aa5 m.toNat z).take n.toNat=aa5 n.toNat z:=by rw [afM,Nat.min_eq_left XA]
 have hr:bj R w (aH (aa5 n.toNat z)) (us.take (n.toNat*esz)):=by
  rw [<- htk,qD _ ql];exact z1.take _
 have r1:=h.TZ (cur:=⟨us⟩) (vs:=us.take (n.toNat*esz)) (es:=aa5 n.toNat z) (elem:=elem) (cap:=m.toNat) (by rw [Pf]; exact XA) (by unfold maxLen; omega) (by simpa using hul) (jO hz yf yg).g hr (λ v hv=>z2 v (ab3 hv)) (by rw [Pf]);rw [Pf] at r1;have e:=kI (R:=R) (w:=w) h.g.wf (.cells ⟨us⟩ elem) (.tok n.toNat w.heap.size m.toNat 0);exact ⟨_,.slice (some ⟨w.heap.size,0,none⟩) n.toNat m.toNat,_,R.add (.tok n.toNat w.heap.size m.toNat 0),β,cP,.inl rfl,r1.put o.dst (x:=.v (.eK s.G.length n.toNat 0 esz n.toNat)) (Rel.eK (kJ h _) ⟨aaK _,λ _=>⟨rfl,ab1 _,.inl (acM _).symm⟩⟩ XA),by rw [bQ]; exact fI h _ _ (by exact λ _ h=>h)⟩
def yI:∀ {G:List GO} {sz:Nat} {e:TypeId} {i j:Nat},sO G sz e i=some j->∃ k,j=i+k/\nth G k=some (.bO [] sz e)
 |[],_,_,_,_,h=>by cases h
 |g::G,sz,e,i,j,h=>by
  have Rc:sO G sz e (i+1)=some j->∃ k,j=i+k/\nth (g::G) k=some (.bO [] sz e):=λ h=>by
   obtain ⟨k,h1,h2⟩:=yI h;exact ⟨k+1,by omega,h2⟩
  unfold sO at h;split at h
  .cases ‹_::_=[]›
  .rename_i es s' e' G' ph;obtain ⟨rfl,rfl⟩:=adn ph;split at h
   .rename_i j' hj;cases h;exact Rc hj
   .rw [Bool.cond_eq_ite] at h;split at h
    .rename_i hb;rw [aag] at hb;have q1:=aad hb.1;have q2:=aad hb.2;cases es with
     |nil=>
      injection h with h;rw [q1,q2];exact ⟨0,by omega,rfl⟩
     |cons x l=>cases h
    .cases h
  .rename_i g' G' _ ph;obtain ⟨rfl,rfl⟩:=adn ph;exact Rc h
def yJ:∀ {G:List GO} {sz:Nat} {e:TypeId} {i j:Nat},qB G sz e i=some j->∃ k,j=i+k/\nth G k=some (.bO [] sz e)
 |[],_,_,_,_,h=>by cases h
 |g::G,sz,e,i,j,h=>by
  have Rc:qB G sz e (i+1)=some j->∃ k,j=i+k/\nth (g::G) k=some (.bO [] sz e):=λ h=>by
   obtain ⟨k,h1,h2⟩:=yJ h;exact ⟨k+1,by omega,h2⟩
  unfold qB at h;split at h
  .cases ‹_::_=[]›
  .rename_i es s' e' G' ph;obtain ⟨rfl,rfl⟩:=adn ph;rw [Bool.cond_eq_ite] at h;split at h
   .rename_i hb;rw [aag] at hb;have q1:=aad hb.1;have q2:=aad hb.2;cases es with
    |nil=>
     injection h with h;rw [q1,q2];exact ⟨0,by omega,rfl⟩
    |cons x l=>exact Rc h
   .exact Rc h
  .rename_i g' G' _ ph;obtain ⟨rfl,rfl⟩:=adn ph;exact Rc h
def M0 {b:Bool} {j:Nat} (h:ab2 b G sz e=some j):nth G j=some (.bO [] sz e):=by
 cases b
 .obtain ⟨k,h1,h2⟩:=yI (show sO G sz e 0=some j from h);rw [h1,ab1]; exact h2
 .obtain ⟨k,h1,h2⟩:=yJ (show qB G sz e 0=some j from h);rw [h1,ab1]; exact h2
def H6 (h:bG E R w β s a) (t:TypeId) (x y:Operand) (ho:o.op=.makeSlice t x y) {i:TI} (hi:E.ti t=some i) {n m:Int} (hx:cK E s.ae x=.v (.int k n)) (hy:cK E s.ae y=.v (.int k' m))
  (hk:i.k=.sl elem esz ag wI (some z)) (hz:z.cells.length=esz) (Jz:1<=esz) (yf:z.bN=true) {b:Bool} (hs:sP s b o.dst elem esz wI z n m=some (true,s')) :
  c8 E R w β s a o s':=by
 unfold sP at hs;split at hs
 .rename_i id cG;split at hs
  .rename_i yg;obtain ⟨hc,rfl⟩:=cL hs;have hc:=of_decide_eq_true hc;have cG:=M0 cG;obtain ⟨us,z1,z2,cP⟩:=wJ h t x y ho hi hx hy hk hz Jz yf ⟨by omega,by omega,by omega,by omega⟩;have XA:n.toNat<=m.toNat:=by omega
   have ql:=(jO (n:=m.toNat) hz yf yg).g;have hul:us.length=m.toNat*esz:=by rw [<- z1.length,eE ql,adm]
   have Pf:(aa5 n.toNat z).length=n.toNat:=adm;have htk:(aa5 m.toNat z).take n.toNat=aa5 n.toNat z:=by rw [afM,Nat.min_eq_left XA]
   have hr:bj R w (aH (aa5 n.toNat z)) (us.take (n.toNat*esz)):=by
    rw [<- htk,qD _ ql];exact z1.take _
   obtain ⟨ro,ck⟩:∃ ro,nth R.obj id=some ro:=by
    have du:=bX cG;rw [<- h.g.len] at du;exact ⟨R.obj[id],by rw [bk,aaN du]⟩
   have hle:∀ b c,dy ro (.tok (aa5 n.toNat z).length b c 0):=λ b c=>by
    have cV:=h.g.obj id _ _ cG ck;rw [Pf];cases ro with
    |none=>exact cV.elim
    |bK=>show 1<=n.toNat; omega
    |cN _=>exact cV.elim
    |bC _=>exact cV.elim
    |tok f g c' k0=>
     obtain ⟨_,hf,_⟩:=cV;simp only [acf] at hf;exact ⟨by omega,λ e=>by omega⟩
   obtain ⟨r1,r2⟩:=h.Pg (cur:=⟨us⟩) (vs:=us.take (n.toNat*esz)) (es':=aa5 n.toNat z) (elem:=elem) (cap:=m.toNat) cG ck hle (by rw [Pf]; exact XA) (by unfold maxLen; omega) (by simpa using hul) (jO hz yf yg).g hr (λ v hv=>z2 v (ab3 hv)) (by rw [Pf]);rw [Pf] at r1 r2;exact ⟨_,.slice (some ⟨w.heap.size,0,none⟩) n.toNat m.toNat,_,_,β,cP,.inl rfl,r1.put o.dst (x:=.v (.eK id n.toNat 0 esz n.toNat)) (Rel.eK (az ck) ⟨aaK _,λ _=>⟨rfl,ab1 _,.inl (acM _).symm⟩⟩ XA),by rw [bQ]; exact r2⟩
  .cases hs
 .cases hs
end ops
section fams
variable {β':Nat->Nat} {a':Act}
def tS {l r:List α} {x:α} (h:nth l i=some x):nth (l++r) i=some x:=by
 have:=bX h;rw [bk] at *;rw [abN this];exact h
def cq {l r:List α} {x:α} (h:nth (l++r) i=some x):nth l i=some x\/∃ j,i=l.length+j/\nth r j=some x:=by
 rw [bk] at h;rcases Nat.lt_or_ge i l.length with du|FR
 .rw [abN du] at h;exact .inl (by rw [bk]; exact h)
 .rw [acN FR] at h;exact .inr ⟨i - l.length,by omega,by rw [bk]; exact h⟩
def bG.T1 (h:bG E R w β s a) (cG:nth s.G id=some (.bC fs sz e)) {nfs:List Nat} {nts:List TR} (hl:nts.length=nfs.length)
  (gl:∀ j f t,nth nfs j=some f->nth nts j=some t->Gx R w sz e f t) (AO:∀ j f b c,nth nts j≠some (.tok f b c)) (ck:nth R.obj id=some ro) :
  ∃ ts,ro=.bC ts/\ts.length=fs.length/\bG E (R.reset id (.bC (ts++nts))) w β (s.cM (aC s.G id (.bC (fs++nfs) sz e))) a/\Step R w β s.boxes (R.reset id (.bC (ts++nts))) w β s.boxes:=by
 have cV:=h.g.obj id _ _ cG ck;cases ro with
 |none=>exact cV.elim
 |bK=>exact cV.elim
 |cN _=>exact cV.elim
 |tok _ _ _ _=>exact cV.elim
 |bC ts=>
 obtain ⟨q1,q2,q3⟩:=cV;have qV:∀ b,RO.has (.bC (ts++nts)) b->RO.has (.bC ts) b:=λ b ⟨j,f,c,hj⟩=>by
  rcases cq hj with hj|⟨i,_,hi⟩
  .exact ⟨j,f,c,hj⟩
  .exact absurd hi (AO i f b c)
 have ext:Ext R w (R.reset id (.bC (ts++nts))) w:=⟨λ _ _ h=>h,λ _ _ _=>rfl,λ i r hr=>by
  by_cases e:id=i
  .subst e;rw [ck] at hr;cases hr;exact ⟨_,az ck,λ j t hj=>⟨t,tS hj,km.refl t⟩⟩
  .exact ⟨r,by rw [ak.reset,bE e]; exact hr,dy.refl r⟩,jN.refl w⟩
 have live:∀ b,Live (R.reset id (.bC (ts++nts))) b->Live R b:=λ b ⟨i,r,h1,h2⟩=>by
  rcases aE ck h1 with ⟨_,rfl⟩|⟨_,h1⟩
  .exact ⟨id,_,ck,qV b h2⟩
  .exact ⟨i,r,h1,h2⟩
 refine ⟨ts,rfl,q1,⟨⟨by simp [St.cM,ak.reset,h.g.len],λ i g r h1 h2=>?_,λ i j ri rj b h1 h2 b1 b2=>?_,h.g.wf,λ g cs hg=>(h.g.fU g cs hg).mono ext,h.g.lo⟩,h.b.keep ext (λ _ _ _=>rfl) (λ _ _ _ _ h=>h) (λ _ _ _ hl=>live _ hl),h.t.mono ext,h.n,h.d.mono ext⟩,?_⟩
 .rcases aE ck h2 with ⟨rfl,rfl⟩|⟨de,h2⟩
  .simp only [St.cM] at h1;rw [az cG] at h1;cases h1;refine ⟨by simp [q1,hl],λ i j f b c f' c' hi hj=>?_,λ j f t hf ht=>?_⟩
   .rcases cq hi with hi|⟨_,_,hi⟩
    .rcases cq hj with hj|⟨_,_,hj⟩
     .exact q2 i j _ _ _ _ _ hi hj
     .exact absurd hj (AO _ _ _ _)
    .exact absurd hi (AO _ _ _ _)
   .rcases cq hf with GI|⟨k,hk,GI⟩
    .rcases cq ht with ht|⟨k',mr,ht⟩
     .exact q3 j f t GI ht
     .have:=bX GI;omega
    .rcases cq ht with ht|⟨k',mr,ht⟩
     .have:=bX ht;omega
     .have MM:k=k':=by omega
      subst MM;exact gl k f t GI ht
  .simp only [St.cM] at h1;rw [bE (adj de)] at h1;exact (h.g.obj i g r h1 h2).mono ext (λ _ _=>rfl) (λ _ _ _ h=>h)
 .rcases aE ck h1 with ⟨g3,e1⟩|⟨g3,g1⟩
  .rcases aE ck h2 with ⟨g4,e2⟩|⟨g4,g2⟩
   .omega
   .rw [e1] at b1;exact g3.trans (h.g.inj id j _ _ b ck g2 (qV b b1) b2)
  .rcases aE ck h2 with ⟨g4,e2⟩|⟨g4,g2⟩
   .rw [e2] at b2;exact (h.g.inj i id _ _ b g1 ck b1 (qV b b2)).trans g4.symm
   .exact h.g.inj i j ri rj b g1 g2 b1 b2
 .refine ⟨ext,rfl,rfl,rfl,aaK _,λ _ _ _=>rfl,λ b _ ho=>?_,λ _ _ h _ _=>h⟩;rcases ho with ho|ho
  .exact .inl (live b ho)
  .exact .inr ho
def c8.step (e:s1.boxes=s.boxes) (st:Step R w β s.boxes R' w β s.boxes) (h:c8 E R' w β s1 a o s2):c8 E R w β s a o s2:=by
 obtain ⟨nx,x,w',R2,β',h1,h2,h3,h4⟩:=h;rw [e] at h4;exact ⟨nx,x,w',R2,β',h1,h2,h3,st.trans h4⟩
def ajB {c:Bool} {a b:α} (h:(bif c then some a else none)=some b):c=true/\a=b:=by
 cases c
 .cases h
 .exact ⟨rfl,Option.some.inj h⟩
def Dt {sz:Nat} {e:TypeId}:∀ {G:List GO} {i j:Nat},sJ G sz e i=some j->∃ fs,nth G (j - i)=some (.bC fs sz e)/\i<=j
 |[],i,j,h=>by cases h
 |g::G,i,j,h=>by
  have step:sJ G sz e (i+1)=some j->∃ fs,nth (g::G) (j - i)=some (.bC fs sz e)/\i<=j:=λ h=>by
   obtain ⟨fs,h1,h2⟩:=Dt h;refine ⟨fs,?_,by omega⟩;rw [show j - i=(j - (i+1))+1 by omega];exact h1
  unfold sJ at h;split at h
  .rename_i ph;cases ph
  .rename_i ph;obtain ⟨rfl,rfl⟩:=adn ph;split at h
   .rename_i j' hj;cases h;exact step hj
   .obtain ⟨hc,rfl⟩:=ajB h
    .rw [aag] at hc;have h1:=aad hc.1;have h2:=aad hc.2;subst h1 h2;exact ⟨_,by rw [afZ]; rfl,aaK _⟩
  .rename_i x G1 _ _ _ hn ph;obtain ⟨rfl,rfl⟩:=adn ph;exact step h
def bG.T2 (h:bG E R w β (s0.put d (.v x)) a) (hw:∀ c,Rel R w x c->Rel R w y c):bG E R w β (s0.put d (.v y)) a:=by
 cases d with
 |none=>exact h
 |some d=>
  simp only [St.put] at h ⊢;cases hb:Nat.blt d s0.n with
  |false=>rw [hb] at h; exact h
  |true=>
   rw [hb] at h;refine ⟨h.g,h.b,λ i hi=>?_,h.n,h.d⟩;by_cases e:d=i
   .subst e;rw [aS];obtain ⟨c,k1,k2⟩:=h.t d (by rw [aS]; simp);rw [aS] at k2;exact ⟨c,k1,hw c k2⟩
   .rw [bq e] at hi ⊢;have:=h.t i (by rw [bq e]; exact hi);rw [bq e] at this;exact this
def c8.T2 {s0:St} {x y:AV} (h:c8 E R w β s a o (s0.put o.dst (.v x))) (hw:∀ R' w',Ext R w R' w'->∀ c,Rel R' w' x c->Rel R' w' y c):c8 E R w β s a o (s0.put o.dst (.v y)):=by
 obtain ⟨nx,v,w',R',β',h1,h2,h3,h4⟩:=h;refine ⟨nx,v,w',R',β',h1,h2,h3.T2 (hw R' w' h4.ext),?_⟩;rw [bQ] at h4 ⊢;exact h4
end fams
section ops
def mB {k:LK} {c:Value} (h:Rel R w (.list k sz es) c) (iJ:es=[]\/sz=esz) :
  jX esz es/\∃ vs,bj R w (aH es) vs/\(∀ v∈vs,v.oneCell'=true)/\vs.length=es.length*esz /\
   ((es=[]/\vs=[]/\∃ ad,c=.slice ad 0 0/\(ad=none\/k=.bV))\/∃ b o' cap,c=.slice (some ⟨b,o',none⟩) es.length cap/\es.length<=cap/\HR R k b o' es.length cap/\(∀ j v,vs[j]?=some v->w.cell? ((⟨b,o',none⟩:Addr).add j)=some v)/\lK R w b o' esz es):=by
 cases h with
 |nq=>exact ⟨λ e he=>by simp at he,[],.nil,by simp,by simp,.inl ⟨rfl,rfl,_,rfl,.inl rfl⟩⟩
 |kP=>exact ⟨λ e he=>by simp at he,[],.nil,by simp,by simp,.inl ⟨rfl,rfl,_,rfl,.inl rfl⟩⟩
 |pd=>exact ⟨λ e he=>by simp at he,[],.nil,by simp,by simp,.inl ⟨rfl,rfl,_,rfl,.inr rfl⟩⟩
 |qq=>exact ⟨λ e he=>by simp at he,[],.nil,by simp,by simp,.inl ⟨rfl,rfl,_,rfl,.inl rfl⟩⟩
 |qQ=>exact ⟨λ e he=>by simp at he,[],.nil,by simp,by simp,.inl ⟨rfl,rfl,_,rfl,.inl rfl⟩⟩
 | @list _ _ _ b o' len cap hr hlen lS MM=>
  subst hlen;have nu:lK R w b o' esz es:=by
   rcases iJ with rfl|rfl
   .exact .nil
   .exact hr
  obtain ⟨g0,vs,g1,g2,g3,g4⟩:=Dl nu;refine ⟨g0,vs,g1,g2,by rw [<- g1.length,kz g0],.inr ⟨b,o',cap,rfl,lS,MM,λ j v hv=>?_,nu⟩⟩;rw [eZ];exact g3 j v hv
def Du {esz:Nat} {w:World} {R:ak} (h0:jX esz es) (h:bj R w (aH es) vs) (h1:∀ v∈vs,v.oneCell'=true)
  (hc:∀ j v,vs[j]?=some v->w.cell? ⟨b,j,none⟩=some v) (hI:∀ j,j < vs.length->R.I b j):lK R w b 0 esz es:=
 oR h0 (jG.make h h1 (λ j v hv=>by rw [ab1]; exact hc j v hv) (λ j hj=>by rw [ab1]; exact hI j (by rw [<- h.length]; exact hj)))
def kZ (h:jX sz l) (k:jX sz r):jX sz (l++r):=λ e he=>by
 rcases acV.1 he with he|he
 .exact h e he
 .exact k e he
def jP {l r:List Value} (h:∀ v∈l,v.oneCell'=true) (k:∀ v∈r,v.oneCell'=true):∀ v∈l++r,v.oneCell'=true:=λ v hv=>by
 rcases acV.1 hv with hv|hv
 .exact h v hv
 .exact k v hv
structure Apd (P:Program) (w:World) (t u ty e:TypeId) (i:TypeInfo) (z:Value) (cy:Value) (n:Nat) (us:List Value):Prop where
 zero:n=0->∀ base len cap,len<=cap->(abC #[t,u] ty #[.slice base len cap,cy]).run P w=.ok (.slice base len cap) w
 nil:0 < n->(n:Int)<=9223372036854775807->n*i.bytes<=281474976710656->(abC #[t,u] ty #[.slice none 0 0,cy]).run P w =
   .ok (.slice (some ⟨w.heap.size,0,none⟩) n (grownCap w n 0 e)) (w.drew.alloc (.cells (us.toArray++aaS z.cells (grownCap w n 0 e - n)) e))
 grow:0 < n->∀ (b:Addr) (iG nw:Nat) (M1:List Value),M1.length=iG*i.size->(∀ j v,M1[j]?=some v->w.cell? (b.add j)=some v)->nw < iG+n->((iG+n:Nat):Int)<=9223372036854775807->Builtin.nextslicecap (iG+n) nw*i.bytes<=281474976710656 ->
   (abC #[t,u] ty #[.slice (some b) iG nw,cy]).run P w=.ok (.slice (some ⟨w.heap.size,0,none⟩) (iG+n) (grownCap w (iG+n) nw e))
    (w.drew.alloc (.cells (M1.toArray++us.toArray++aaS z.cells (grownCap w (iG+n) nw e - (iG+n))) e))
 room:0 < n->∀ (g k iG nw:Nat) (cur:Array Value),w.heap[g]?=some (.cells cur e (0,0))->iG+n<=nw->k+iG*i.size+us.length<=cur.size ->
   (abC #[t,u] ty #[.slice (some ⟨g,k,none⟩) iG nw,cy]).run P w=.ok (.slice (some ⟨g,k,none⟩) (iG+n) nw) (w.setRow g (cur.toList.take (k+iG*i.size)++us++cur.toList.drop (k+iG*i.size+us.length)).toArray)
def Apd.T3 {w:World} {ty e:TypeId} {i:TypeInfo} {z:Value} {cy:Value} (h:Apd P w t u ty e i z cy n us) (hn:0 < n) (g iG nw:Nat) (cur:Array Value) (h1:w.heap[g]?=some (.cells cur e (0,0))) (h2:iG+n<=nw) (h3:iG*i.size+us.length<=cur.size) :
  (abC #[t,u] ty #[.slice (some ⟨g,0,none⟩) iG nw,cy]).run P w=.ok (.slice (some ⟨g,0,none⟩) (iG+n) nw) (w.setRow g (cur.toList.take (iG*i.size)++us++cur.toList.drop (iG*i.size+us.length)).toArray):=by
 have:=h.room hn g 0 iG nw cur h1 h2 (by omega);rw [ab1] at this;exact this
def rL (w:World) (t ty e:TypeId) (i:TypeInfo) (ht:P.underlying t=some (.slice e)) (hi:P.info? e=some i)
  (g k iG nw:Nat) (cur:Array Value) (hg:w.heap[g]?=some (.cells cur e (0,0)))
  (a:Addr) (m c:Nat) (news:List Value) (hl:news.length=m*i.size) (ajC:∀ j u,news[j]?=some u->w.cell? (a.add j)=some u) (h1:∀ u∈news,u.oneCell'=true)
  (gQ:iG+m<=nw) (Dv:k+iG*i.size+news.length<=cur.size) :
  (abC #[t,t] ty #[.slice (some ⟨g,k,none⟩) iG nw,.slice (some a) m c]).run P w =
   .ok (.slice (some ⟨g,k,none⟩) (iG+m) nw) (w.setRow g (cur.toList.take (k+iG*i.size)++news++cur.toList.drop (k+iG*i.size+news.length)).toArray):=by
 have hf:=run_firstCells_some (P:=P) w i.size m a m c news hl ajC;have mh:=run_storeCells_at P g (k+iG*i.size) e news 0 cur w hg (by simpa using Dv) h1;simp only [afY] at mh;simp [abC,run_underlying ht,sizeOf,typeInfo,hi,afI,gQ,hf,Addr.add_lit,mh]
def tT (h:bG E R w β s a) {t u:TypeId} {sz len:Nat} {y:AV} {ys:List AV} {cx cy:Value} {us:List Value}
  (lU:∀ {c:Value} {w':World},(abC #[t,u] o.type #[cx,cy]).run E.P w=.ok c w'->(execOp a.eval o).run E.P w=.ok (.value c) w')
  {elem esz eb:Nat} {z:AV} (JZ:1<=eb) (hz:z.cells.length=esz) (yf:z.bN=true)
  (f2:ie.size=esz) (f3:ie.bytes=eb) (f6:jy ie=some z)
  (h0:Rel R w (.eK id f off sz len) cx) (hA:∀ zc:Value,ie.zero=some zc->Apd E.P w t u o.type elem ie zc cy (y::ys).length us)
  (y0:ig esz (y::ys)) (y1:bj R w (aH (y::ys)) us) (y2:∀ v∈us,v.oneCell'=true) (y3:us.length=(y::ys).length*esz)
  {es:List AV} (cG:nth s.G id=some (.bO es esz elem)) (hf:f=es.length) (ho0:off=0) (CL:len=f) (hb:(es.length+(y::ys).length)*eb<=140737488355328) :
  c8 E R w β s a o ((s.cM (aC s.G id (.bO (es++(y::ys)) esz elem))).put o.dst (.v (.eK id (es.length+(y::ys).length) 0 esz (es.length+(y::ys).length)))):=by
 obtain ⟨zc,yg,MS⟩:=fG f6;have hA:=hA zc yg;obtain ⟨d1,d2⟩:=Rel.cells (MS R w) yf;have xm:zc.cells.size=esz:=by rw [<- hz,d1.length]; simp
 have po:0 < (y::ys).length:=by simp
 have hm:es.length+(y::ys).length<=140737488355328:=adR (adi _ JZ) hb;have yG:(es++(y::ys)).length=es.length+(y::ys).length:=aaL
 have fresh:∀ {xs:List Value} {old:Nat} {r0:RO},nth R.obj id=some r0->(∀ b c,dy r0 (.tok (es.length+(y::ys).length) b c 0))->ig esz es->bj R w (aH es) xs->(∀ v∈xs,v.oneCell'=true)->xs.length=es.length*esz ->
   (abC #[t,u] o.type #[cx,cy]).run E.P w=.ok (.slice (some ⟨w.heap.size,0,none⟩) (es.length+(y::ys).length) (grownCap w (es.length+(y::ys).length) old elem)) (w.drew.alloc (.cells (xs.toArray++us.toArray++aaS zc.cells (grownCap w (es.length+(y::ys).length) old elem - (es.length+(y::ys).length))) elem)) ->
   c8 E R w β s a o ((s.cM (aC s.G id (.bO (es++(y::ys)) esz elem))).put o.dst (.v (.eK id (es.length+(y::ys).length) 0 esz (es.length+(y::ys).length)))):=by
  intro xs old r0 ck hle FK hxr AG Tf cP;have FR:=grownCap_ge w (es.length+(y::ys).length) old elem;obtain ⟨r1,r2⟩:=h.ad5 (cur:=xs.toArray++us.toArray++aaS zc.cells (grownCap w (es.length+(y::ys).length) old elem - (es.length+(y::ys).length))) (vs:=xs++us) (es':=es++(y::ys)) cG ck (by rw [yG]; exact hle) (by rw [yG]; exact FR) (grownCap_le_maxLen w _ old elem (by unfold maxLen; omega)) (by
   simp only [adT,acu,size_zeroCells,xm,Tf,y3,<- abk];congr 1;omega) (JX FK y0) (by rw [eT]; exact hxr.append y1) (jP AG y2) (by
   rw [yG];simp only [adF];exact adY (by rw [aaL,Tf,y3,abk]))
  rw [yG] at r1 r2;refine ⟨_,_,_,_,β,lU cP,.inl rfl,r1.put o.dst ?_,by rw [bQ]; exact r2⟩;exact Rel.eK (az ck) ⟨aaK _,λ _=>⟨rfl,ab1 _,.inl (acM _).symm⟩⟩ FR
 cases h0 with
 | @pf _ _ ro ck hon=>
  have cV:=h.g.obj id _ _ cG ck;have he0:es=[]:=acK hf.symm;subst he0;cases ro with
  |none=>exact cV.elim
  |cN _=>exact cV.elim
  |bC _=>exact cV.elim
  |tok f' g c k0=>
   obtain ⟨_,rfl,_⟩:=cV;simp [sQ] at hon
  |bK=>
   simp only [acf] at hb;have cP:=hA.nil po (by omega) (by rw [f3]; rw [ab1] at hb; omega);exact fresh (xs:=[]) (old:=0) ck (λ b c=>by simp only [dy]; omega) (λ e he=>by simp at he) .nil (by simp) (by simp) (by simpa using cP)
 | @eK _ _ _ _ _ cap b o' ro ck gl lS=>
  subst hf; subst ho0; subst CL;obtain ⟨b',c',cur,vs,rfl,g1,g2,g3,g4,g5,g6,g7,g8,g9⟩:=CN h.g cG ck (λ k=>by subst k; exact gl);obtain ⟨rfl,hcc,FL⟩:=gl.2 rfl;rw [ab1] at hcc;subst hcc;have O9:vs.length=es.length*esz:=by rw [<- g7.length,eE g1]
  have rM:∀ j v,vs[j]?=some v->cur[j]?=some v:=λ j v hj=>by
   rw [<- g9,ab5] at hj;split at hj
   .rw [<- ab7]; exact hj
   .cases hj
  by_cases gQ:es.length+(y::ys).length<=cap
  .have An:o'=0:=by
    rcases FL with FL|FL
    .rw [FL,acM]
    .rw [aca] at gQ; omega
   subst An;have hle:(es.length+(y::ys).length)*esz<=cap*esz:=aaR _ gQ;have cP:=hA.T3 po b es.length cap cur g2 gQ (by rw [f2,y3,<- abk,g5]; exact hle);rw [f2] at cP;have nW:cur.toList.length=cap*esz:=by rw [show cur.toList.length=cur.size from ab9,g5]
   obtain ⟨r1,r2⟩:=h.Yj (cur2:=(cur.toList.take (es.length*esz)++us++cur.toList.drop (es.length*esz+us.length)).toArray) (vs:=vs++us) (es':=es++(y::ys)) cG ck (by rw [yG]; omega) (by rw [yG]; exact gQ) g2 (by
    rw [acu,<- ab9];simp only [aaL,acg,acL,y3,nW];rw [abk] at hle;omega) (JX g1 y0) (by rw [eT]; exact g7.append y1) (jP g8 y2) (by
    rw [yG,ady,g9];exact adY (by rw [aaL,O9,y3,abk]))
   rw [yG] at r1 r2;refine ⟨_,_,_,_,β,lU cP,.inl rfl,r1.put o.dst ?_,by rw [bQ]; exact r2⟩;exact Rel.eK (az ck) ⟨aaK _,λ _=>⟨rfl,ab1 _,.inl (acM _).symm⟩⟩ gQ
  .have cP:=hA.grow po ⟨b,o',none⟩ es.length cap vs (by rw [O9,f2]) (λ j v hj=>by
    rw [eZ];have Mj:=(acJ.1 hj).1;have An:o'=0:=by
     rcases FL with FL|FL
     .rw [FL,acM]
     .have:es.length=0:=by omega
      rw [O9,this] at Mj;omega
    subst An;rw [ab1,cell_of_row w b j cur elem (0,0) g2];exact rM j v hj) (by omega) (by omega) (growslice_fits (by omega) (by rw [f3]; exact hb))
   exact fresh (xs:=vs) (old:=cap) ck (λ b c=>⟨by omega,λ e=>by omega⟩) g1 g7 g8 O9 cP
section rows
def Gy.mono {sz:Nat} {e:TypeId} {row:List AV} {t:TR} (h:Gy R w sz e row t) (ex:Ext R w R' w') (hb:∀ f b c,t=.tok f b c->w'.heap[b]?=w.heap[b]?/\∀ o,R'.I b o->R.I b o):Gy R' w' sz e row t:=by
 cases t with
 |bK=>exact h
 |full _=>exact h
 |tok f b c=>
  obtain ⟨h5,ql,cur,vs,k1,k2,k3,k4,k5,k6,k7,k8⟩:=h;obtain ⟨m1,m2⟩:=hb f b c rfl;exact ⟨h5,ql,cur,vs,m1.trans k1,k2,k3,k4,λ o ho=>k5 o (m2 o ho),k6.mono ex,k7,k8⟩
def bG.T5 (h:bG E R w β s a) {row':List AV} {elem:TypeId} {id j n b c:Nat} 
  (hg:nth s.G id=some (.jv rows sz elem)) (cG:nth R.obj id=some (.bC ts)) (hj:nth ts j=some t0)
  (hb:b=w.heap.size\/∃ f c0,t0=.tok f b c0)
  (e:Ext R w (R.reset id (.bC (aC ts j (.tok n b c)))) w')
  (old:∀ b',b'≠b->b' < w.heap.size->w'.heap[b']?=w.heap[b']?)
  (iJ:w.heap.size<=w'.heap.size) (qU:Gy (R.reset id (.bC (aC ts j (.tok n b c)))) w' sz elem row' (.tok n b c))
  (hd:E.lo<=w.drawn->E.lo<=w'.drawn) (os:w'.os=w.os) (tp:w'.tape=w.tape) (ou:w'.output=w.output) :
  bG E (R.reset id (.bC (aC ts j (.tok n b c)))) w' β (s.cM (aC s.G id (.jv (aC rows j row') sz elem))) a /\
  Step R w β s.boxes (R.reset id (.bC (aC ts j (.tok n b c)))) w' β s.boxes:=by
 obtain ⟨m1,m2,m3⟩:=h.g.obj id _ _ hg cG;have du:∀ x,RO.has (.bC ts) x->x < w.heap.size:=λ x hx=>h.g.dS ⟨id,_,cG,hx⟩
 have qV:∀ x,RO.has (.bC (aC ts j (.tok n b c))) x->x=b\/RO.has (.bC ts) x:=λ x ⟨j',f,c1,Mj⟩=>by
  rcases df Mj with ⟨_,hx,_⟩|⟨_,Mj⟩
  .cases hx; exact .inl rfl
  .exact .inr ⟨j',f,c1,Mj⟩
 have XB:b < w.heap.size->RO.has (.bC ts) b:=λ hl=>by
  rcases hb with hb|⟨f,c0,rfl⟩
  .omega
  .exact ⟨j,f,c0,hj⟩
 have live:∀ x,x < w.heap.size->Live (R.reset id (.bC (aC ts j (.tok n b c)))) x->Live R x:=λ x hx ⟨i,r,h1,h2⟩=>by
  rcases aE cG h1 with ⟨rfl,rfl⟩|⟨_,h1⟩
  .rcases qV x h2 with rfl|h2
   .exact ⟨i,_,cG,XB hx⟩
   .exact ⟨i,_,cG,h2⟩
  .exact ⟨i,r,h1,h2⟩
 have aea:∀ i r x,nth R.obj i=some r->i≠id->r.has x->x≠b:=λ i r x hi de hx e=>by
  subst e;have hl:=h.g.dS ⟨i,r,hi,hx⟩;exact de (h.g.inj i id _ _ x hi cG hx (XB hl))
 have iH:∀ j' f x c1,nth ts j'=some (.tok f x c1)->j≠j'->x≠b:=λ j' f x c1 Mj de e=>by
  subst e;have hl:=du x ⟨j',f,c1,Mj⟩;rcases hb with hb|⟨f0,c0,rfl⟩
  .omega
  .exact de (m2 _ _ _ _ _ _ _ hj Mj)
 have Dr:∀ k cs,fm s.boxes k=some cs->β k≠b:=λ k cs hk e=>by
  have hl:=h.gF (.inr ⟨k,cs,hk,rfl⟩);exact (h.b.box k cs hk).2.2 ⟨id,_,cG,by rw [e]; exact XB (e ▸ hl)⟩
 refine ⟨⟨⟨by simp [St.cM,ak.reset,h.g.len],λ i gg r ye h2=>?_,λ i j' ri rj x ye h2 b1 b2=>?_,λ b o hi=>Nat.lt_of_lt_of_le (h.g.wf b o hi) iJ,λ g cs hg=>(h.g.fU g cs hg).mono e,hd h.g.lo⟩,?_,h.t.mono e,h.n,h.d.mono e⟩,?_⟩
 .rcases aE cG h2 with ⟨rfl,rfl⟩|⟨de,h2⟩
  .simp only [St.cM] at ye;rw [az hg] at ye;cases ye;refine ⟨by rw [iI,iI]; exact m1,λ i1 i2 f1 b1 c1 f2 c2 h1 h2=>?_,λ j' row t nu tU=>?_⟩
   .rcases df h1 with ⟨q1,q2,_⟩|⟨q1,q2⟩
    .rcases df h2 with ⟨p1,p2,_⟩|⟨p1,p2⟩
     .omega
     .cases q2;exact absurd rfl (iH _ _ _ _ p2 p1)
    .rcases df h2 with ⟨p1,p2,_⟩|⟨p1,p2⟩
     .cases p2;exact absurd rfl (iH _ _ _ _ q2 q1)
     .exact m2 _ _ _ _ _ _ _ q2 p2
   .rcases df tU with ⟨q1,q2,_⟩|⟨q1,q2⟩
    .subst q1; subst q2;rcases df nu with ⟨_,p2,_⟩|⟨p1,_⟩
     .subst p2; exact qU
     .exact absurd rfl p1
    .rcases df nu with ⟨p1,_,_⟩|⟨_,p2⟩
     .exact absurd p1 q1
     .exact (m3 j' row t p2 q2).mono e λ f b1 c1 ht=>⟨old b1 (iH j' f b1 c1 (ht ▸ q2) q1) (du b1 ⟨j',f,c1,ht ▸ q2⟩),λ _ ho=>ho⟩
  .simp only [St.cM] at ye;rw [bE (adj de)] at ye;exact (h.g.obj i gg r ye h2).mono e (λ x hx=>old x (aea i r x h2 de hx) (h.g.dS ⟨i,r,h2,hx⟩)) (λ b o _ hi=>hi)
 .rcases aE cG ye with ⟨g3,e1⟩|⟨g3,g1⟩
  .rcases aE cG h2 with ⟨g4,e2⟩|⟨g4,g2⟩
   .omega
   .rw [e1] at b1;rcases qV x b1 with rfl|b1
    .exact absurd rfl (aea j' rj x g2 g4 b2)
    .exact g3.trans (h.g.inj id j' _ _ x cG g2 b1 b2)
  .rcases aE cG h2 with ⟨g4,e2⟩|⟨g4,g2⟩
   .rw [e2] at b2;rcases qV x b2 with rfl|b2
    .exact absurd rfl (aea i ri x g1 g3 b1)
    .exact (h.g.inj i id _ _ x g1 cG b1 b2).trans g4.symm
   .exact h.g.inj i j' ri rj x g1 g2 b1 b2
 .exact h.b.keep e (λ k cs hk=>old _ (Dr k cs hk) (h.gF (.inr ⟨k,cs,hk,rfl⟩))) (λ k cs o hk hi=>hi) (λ k cs hk hl=>live _ (h.gF (.inr ⟨k,cs,hk,rfl⟩)) hl)
 .refine ⟨e,os,tp,ou,iJ,λ x hx hn=>old x (λ e=>hn (.inl ⟨id,_,cG,by rw [e]; exact XB (e ▸ hx)⟩)) hx,λ x hx ho=>?_,λ b o hi hb _=>hi⟩;rcases ho with ho|ho
  .exact .inl (live x hx ho)
  .exact .inr ho
def vE (cG:nth R.obj id=some r0) (hle:dy r0 r1) (h:Ext R w R w'):Ext R w (R.reset id r1) w':=by
 refine ⟨λ _ _ h=>h,h.cell,λ i r hr=>?_,h.lp⟩;by_cases ei:id=i
 .subst ei;rw [cG] at hr;cases hr;exact ⟨_,az cG,hle⟩
 .exact ⟨r,by rw [ak.reset,bE ei]; exact hr,dy.refl r⟩
def GJ (hj:nth ts j=some t0) (hle:km t0 t1):yu ts (aC ts j t1):=λ i t hi=>by
 by_cases e:j=i
 .subst e;rw [hj] at hi;cases hi;exact ⟨t1,az hj,hle⟩
 .exact ⟨t,by rw [bE e]; exact hi,km.refl t⟩
def Ch (h:bG E R w β s a) {len:Nat} 
  (lU:∀ {c:Value} {w':World},(abC #[t,u] o.type #[cx,cy]).run E.P w=.ok c w'->(execOp a.eval o).run E.P w=.ok (.value c) w')
  {elem esz eb:Nat} (JZ:1<=eb) (hz:z.cells.length=esz) (yf:z.bN=true)
  (f2:ie.size=esz) (f3:ie.bytes=eb) (f6:jy ie=some z)
  (h0:Rel R w (.gW id j sz len) cx) (hA:∀ zc:Value,ie.zero=some zc->Apd E.P w t u o.type elem ie zc cy (y::ys).length us)
  (y0:jX esz (y::ys)) (y1:bj R w (aH (y::ys)) us) (y2:∀ v∈us,v.oneCell'=true) (y3:us.length=(y::ys).length*esz)
  (cG:nth s.G id=some (.jv rows esz elem)) (hjl:j < rows.length) (CL:len=(rowOf rows j).length) (hb:((rowOf rows j).length+(y::ys).length)*eb<=140737488355328) :
  c8 E R w β s a o ((s.cM (aC s.G id (.jv (aC rows j (rowOf rows j++(y::ys))) esz elem))).put o.dst (.v (.gW id j esz (len+(y::ys).length)))):=by
 subst CL;obtain ⟨zc,yg,MS⟩:=fG f6;have hA:=hA zc yg;obtain ⟨d1,d2⟩:=Rel.cells (MS R w) yf;have xm:zc.cells.size=esz:=by rw [<- hz,d1.length]; simp
 have po:0 < (y::ys).length:=by simp
 have hm:(rowOf rows j).length+(y::ys).length<=140737488355328:=adR (adi _ JZ) hb;obtain ⟨ro,ck⟩:∃ ro,nth R.obj id=some ro:=by
  have:=bX cG;rw [<- h.g.len] at this;exact ⟨R.obj[id],by rw [bk]; exact aaN this⟩
 have cV:=h.g.obj id _ _ cG ck;cases ro with
 |none=>exact cV.elim
 |bK=>exact cV.elim
 |cN _=>exact cV.elim
 |tok _ _ _ _=>exact cV.elim
 |bC ts=>
 obtain ⟨m1,m2,m3⟩:=cV;obtain ⟨t0,J0⟩:∃ t0,nth ts j=some t0:=⟨ts[j],by rw [bk]; exact aaN (by omega)⟩;have qU:nth rows j=some (rowOf rows j):=by
  have:nth rows j=some rows[j]:=by rw [bk]; exact aaN hjl
  unfold rowOf;rw [this]
 have hra:=m3 j _ _ qU J0;have yG:(rowOf rows j++(y::ys)).length=(rowOf rows j).length+(y::ys).length:=aaL;generalize rowOf rows j=es at *
 have fresh:∀ {xs:List Value} {old:Nat},(∀ b c,km t0 (.tok (es.length+(y::ys).length) b c))->jX esz es->bj R w (aH es) xs->(∀ v∈xs,v.oneCell'=true)->xs.length=es.length*esz ->
   (abC #[t,u] o.type #[cx,cy]).run E.P w=.ok (.slice (some ⟨w.heap.size,0,none⟩) (es.length+(y::ys).length) (grownCap w (es.length+(y::ys).length) old elem)) (w.drew.alloc (.cells (xs.toArray++us.toArray++aaS zc.cells (grownCap w (es.length+(y::ys).length) old elem - (es.length+(y::ys).length))) elem)) ->
   c8 E R w β s a o ((s.cM (aC s.G id (.jv (aC rows j (es++(y::ys))) esz elem))).put o.dst (.v (.gW id j esz (es.length+(y::ys).length)))):=by
  intro xs old hle FK hxr AG Tf cP;have FR:=grownCap_ge w (es.length+(y::ys).length) old elem;have e:=vE (r1:=.bC (aC ts j (.tok (es.length+(y::ys).length) w.heap.size (grownCap w (es.length+(y::ys).length) old elem)))) ck (GJ J0 (hle _ _)) (show Ext R w R (w.drew.alloc (.cells (xs.toArray++us.toArray++aaS zc.cells (grownCap w (es.length+(y::ys).length) old elem - (es.length+(y::ys).length))) elem)) from
   ⟨λ _ _ h=>h,λ b o hi=>dv (heap_alloc_old w.drew _ b (h.g.wf b o hi)) o,λ i r hr=>⟨r,hr,dy.refl r⟩,.old λ b hb=>heap_alloc_old w.drew _ b hb⟩)
  obtain ⟨r1,r2⟩:=h.T5 (row':=es++(y::ys)) cG ck J0 (.inl rfl) e (λ b _ hb=>heap_alloc_old w.drew _ b hb) (by simp) ⟨yG.symm,kZ FK y0,_,xs++us,heap_alloc_new w.drew _,FR,grownCap_le_maxLen w _ old elem (by unfold maxLen; omega),by
   simp only [adT,acu,size_zeroCells,xm,Tf,y3,<- abk];congr 1;omega,λ o hi=>by have:=h.g.wf _ _ hi; omega,by rw [eT]; exact (hxr.append y1).mono e,jP AG y2,by
   simp only [adF];exact adY (by rw [aaL,Tf,y3,abk])⟩ (λ h=>adk h) rfl rfl rfl
  refine ⟨_,_,_,_,β,lU cP,.inl rfl,r1.put o.dst ?_,by rw [bQ]; exact r2⟩;exact Rel.gW (az ck) ⟨_,az J0,aaK _,λ _=>⟨rfl,.inl rfl,rfl⟩⟩ FR
 generalize hlen:es.length=len at h0;cases h0 with
 |AF Rd hon=>
  have he0:es=[]:=acK hlen;subst he0;simp only [acf] at hb;have cP:=hA.nil po (by omega) (by rw [f3]; rw [ab1] at hb; omega);refine fresh (xs:=[]) (old:=0) (λ b c=>?_) (λ e he=>by simp at he) .nil (by simp) (by simp) (by simpa using cP);cases t0 with
  |bK=>simp only [km]; simp
  |full _=>exact hra.elim
  |tok f b1 c1=>
   have:=hra.1;simp only [km,acf,aca] at *;exact ⟨by omega,λ e=>by omega⟩
 | @gW _ _ _ _ cap b o' oN Rd gl lS=>
  rw [ck] at Rd;cases Rd;obtain ⟨t1,q1,q2⟩:=gl;rw [J0] at q1;cases q1;subst hlen;cases t0 with
  |bK=>exact q2.elim
  |full _=>exact hra.elim
  |tok f b1 c1=>
  obtain ⟨g0,Tb,cur,vs,g2,g3,g4,g5,g6,g7,g8,g9⟩:=hra;obtain ⟨rfl,FL,rfl⟩:=q2.2 g0.symm;subst g0;have g1:=Tb.g;have O9:vs.length=es.length*esz:=by rw [<- g7.length,eE g1]
  have rM:∀ j v,vs[j]?=some v->cur[j]?=some v:=λ j v hj=>by
   rw [<- g9,ab5] at hj;split at hj
   .rw [<- ab7]; exact hj
   .cases hj
  by_cases gQ:es.length+(y::ys).length<=cap
  .have An:o'=0:=by
    rcases FL with FL|FL
    .exact FL
    .rw [aca] at gQ; omega
   subst An;have hle:(es.length+(y::ys).length)*esz<=cap*esz:=aaR _ gQ;have cP:=hA.T3 po b es.length cap cur g2 gQ (by rw [f2,y3,<- abk,g5]; exact hle);rw [f2] at cP;have nW:cur.toList.length=cap*esz:=by rw [show cur.toList.length=cur.size from ab9,g5]
   have e:=vE (r1:=.bC (aC ts j (.tok (es.length+(y::ys).length) b cap))) ck (GJ J0 ⟨by omega,λ _=>⟨rfl,rfl⟩⟩) (kQ (R:=R) (w:=w) g6 (cur.toList.take (es.length*esz)++us++cur.toList.drop (es.length*esz+us.length)).toArray);obtain ⟨r1,r2⟩:=h.T5 (row':=es++(y::ys)) cG ck J0 (.inr ⟨_,_,rfl⟩) e (λ b' de _=>setRow_other w _ b' _ de) (by simp) ⟨yG.symm,kZ Tb y0,_,vs++us,setRow_heap w _ _ _ _ (0,0) g2,gQ,g4,by
    rw [acu];simp only [aaL,acg,acL,y3,nW];rw [abk] at hle;omega,g6,by rw [eT]; exact (g7.append y1).mono e,jP g8 y2,by
    rw [ady,g9];exact adY (by rw [aaL,O9,y3,abk])⟩ (λ h=>h) rfl rfl rfl
   refine ⟨_,_,_,_,β,lU cP,.inl rfl,r1.put o.dst ?_,by rw [bQ]; exact r2⟩;exact Rel.gW (az ck) ⟨_,az J0,aaK _,λ _=>⟨rfl,.inl rfl,rfl⟩⟩ gQ
  .have cP:=hA.grow po ⟨b,o',none⟩ es.length cap vs (by rw [O9,f2]) (λ j v hj=>by
    have Mj:=(acJ.1 hj).1;have An:o'=0:=by
     rcases FL with FL|FL
     .exact FL
     .have:es.length=0:=by omega
      rw [O9,this] at Mj;omega
    subst An;rw [eZ,ab1,cell_of_row w b j cur elem (0,0) g2];exact rM j v hj) (by omega) (by omega) (growslice_fits (by omega) (by rw [f3]; exact hb))
   exact fresh (xs:=vs) (old:=cap) (λ b c=>⟨by omega,λ e=>by rw [aca] at e; omega⟩) Tb g7 g8 O9 cP
end rows
def rN (h:bG E R w β s a) {ys:List AV} 
  (lU:∀ {c:Value} {w':World},(abC #[t,u] o.type #[cx,cy]).run E.P w=.ok c w'->(execOp a.eval o).run E.P w=.ok (.value c) w')
  (JZ:1<=eb) (hz:z.cells.length=esz) (yf:z.bN=true)
  (f2:ie.size=esz) (f3:ie.bytes=eb) (f6:jy ie=some z)
  (h0:Rel R w (.list (.bC id j) esz es) cx) (hA:∀ zc:Value,ie.zero=some zc->Apd E.P w t u o.type elem ie zc cy (y::ys).length us)
  (y0:jX esz (y::ys)) (y1:bj R w (aH (y::ys)) us) (y2:∀ v∈us,v.oneCell'=true) (y3:us.length=(y::ys).length*esz)
  {fs:List Nat} (kx:nth s.G id=some (.bC fs esz elem)) (T7:nth fs j=some es.length) (hb:(es.length+(y::ys).length)*eb<=140737488355328) :
  c8 E R w β s a o ((s.cM (aC s.G id (.bC (aC fs j (es.length+(y::ys).length)) esz elem))).put o.dst (.v (.list (.bC id j) esz (es++(y::ys))))):=by
 obtain ⟨zc,yg,MS⟩:=fG f6;have hA:=hA zc yg;obtain ⟨d1,d2⟩:=Rel.cells (MS R w) yf;have xm:zc.cells.size=esz:=by rw [<- hz,d1.length]; simp
 have po:0 < (y::ys).length:=by simp
 have hm:es.length+(y::ys).length<=140737488355328:=adR (adi _ JZ) hb;obtain ⟨x0,xs,x1,x2,x3,x4⟩:=mB (esz:=esz) h0 (.inr rfl);obtain ⟨ro,ck⟩:∃ ro,nth R.obj id=some ro:=by
  cases h0 with
  |qQ q _=>exact ⟨_,q⟩
  |list _ _ _ hk=>obtain ⟨ro,q,_⟩:=hk; exact ⟨ro,q⟩
 have cV:=h.g.obj id _ _ kx ck;cases ro with
 |none=>exact cV.elim
 |bK=>exact cV.elim
 |cN _=>exact cV.elim
 |tok _ _ _ _=>exact cV.elim
 |bC ts=>
 have cV:Db R w esz elem fs ts:=cV;have hjl:j < ts.length:=by rw [cV.1]; exact bX T7
 obtain ⟨tr,ht⟩:∃ tr,nth ts j=some tr:=⟨ts[j],by rw [bk]; exact aaN hjl⟩;have uo:=cV.2.2 j _ _ T7 ht;have Ua:∀ i f b c,nth ts i=some (.tok f b c)->b < w.heap.size:=λ i f b c hi=>h.g.dS ⟨id,_,ck,i,f,c,hi⟩
 have fresh:∀ {old:Nat},(∀ b c,km tr (.tok (es.length+(y::ys).length) b c)) ->
   (abC #[t,u] o.type #[cx,cy]).run E.P w=.ok (.slice (some ⟨w.heap.size,0,none⟩) (es.length+(y::ys).length) (grownCap w (es.length+(y::ys).length) old elem)) (w.drew.alloc (.cells (xs.toArray++us.toArray++aaS zc.cells (grownCap w (es.length+(y::ys).length) old elem - (es.length+(y::ys).length))) elem)) ->
   c8 E R w β s a o ((s.cM (aC s.G id (.bC (aC fs j (es.length+(y::ys).length)) esz elem))).put o.dst (.v (.list (.bC id j) esz (es++(y::ys))))):=by
  intro old hle cP;have FR:=grownCap_ge w (es.length+(y::ys).length) old elem;have hcm:=grownCap_le_maxLen w (es.length+(y::ys).length) old elem (by unfold maxLen; omega);have acb:(xs.toArray++us.toArray++aaS zc.cells (grownCap w (es.length+(y::ys).length) old elem - (es.length+(y::ys).length))).size=grownCap w (es.length+(y::ys).length) old elem*esz:=by
   simp only [adT,acu,size_zeroCells,xm,x3,y3,<- abk];congr 1;omega
  generalize mA:xs.toArray++us.toArray++aaS zc.cells (grownCap w (es.length+(y::ys).length) old elem - (es.length+(y::ys).length))=cur at cP acb;have o1:=One.drew w (.cells cur elem);obtain ⟨r1,r2⟩:=h.adZ o1 (n:=(es.length+(y::ys).length)*esz) (r1:=.bC (aC ts j (.tok (es.length+(y::ys).length) w.heap.size (grownCap w (es.length+(y::ys).length) old elem)))) (go:=.bC (aC fs j (es.length+(y::ys).length)) esz elem) kx ck
   (yu.set ht (hle _ _)) (λ b hb=>Pc hb) (Db.set cV ⟨rfl,cur,o1.new,FR,hcm,acb,λ o' An hi=>by
    rcases hi with hi|⟨_,hi⟩
    .have:=h.g.wf _ _ hi;omega
    .omega⟩ (λ i f c hi=>absurd (Ua i f _ c hi) (Nat.lt_irrefl _)) (λ i f b c _ hi=>⟨o1.old b (Ua i f b c hi),λ o' An=>by
     rcases An with An|⟨An,_⟩
     .exact An
     .have:=Ua i f b c hi;omega⟩))
  have e:=r2.ext;refine ⟨_,_,_,_,β,lU cP,.inl rfl,r1.put o.dst ?_,by rw [bQ]; exact r2⟩;refine Rel.list (Du (vs:=xs++us) (kZ x0 y0) (by rw [eT]; exact (x1.mono e).append (y1.mono e)) (jP x2 y2) (λ j v hj=>?_) (λ j hj=>.inr ⟨rfl,by rw [aaL,x3,y3,<- abk] at hj; exact hj⟩)) (by simp) FR ⟨_,az ck,_,az ht,aaK _,λ _=>⟨rfl,.inl rfl,rfl⟩⟩;rw [cell_of_row _ _ j _ _ _ o1.new,<- mA];have du:=(acJ.1 hj).1;rw [<- ab7];simp only [adF,acq];rw [<- acq,abN du];exact hj
 rcases x4 with ⟨rfl,rfl,ad,rfl,hd⟩|⟨b,o',cap,rfl,Yk,xk,tV,xE⟩
 .obtain rfl:ad=none:=by
   rcases hd with hd|hd
   .exact hd
   .cases hd
  simp only [acf] at hb uo;have cP:=hA.nil po (by simp only [acf] at hm; omega) (by rw [f3]; rw [ab1] at hb; omega);cases tr with
  |bK=>exact fresh (old:=0) (λ b c=>by simp only [km,aca]; omega) (by simpa using cP)
  |full f'=>
   have uo:f'=0:=uo;subst uo;exact fresh (old:=0) (λ b c=>by simp only [km,aca]; omega) (by simpa using cP)
  |tok f' g c=>
   obtain ⟨uo,_⟩:=uo;subst uo;exact fresh (old:=0) (λ b c=>by simp only [km,aca,acf]; omega) (by simpa using cP)
 .obtain ⟨oN,Rd,CM⟩:=xk;rw [ck] at Rd;cases Rd;obtain ⟨t',q3,CM⟩:=CM;rw [ht] at q3;cases q3;cases tr with
  |bK=>exact CM.elim
  |full f'=>
   have hf:f'=es.length:=uo;subst hf;have lS:=CM.2 rfl;subst lS;have cP:=hA.grow po ⟨b,o',none⟩ es.length es.length xs (by rw [x3,f2]) tV (by omega) (by omega) (growslice_fits (by omega) (by rw [f3]; exact hb));exact fresh (λ b c=>by simp only [km]; omega) cP
  |tok f' g c=>
   obtain ⟨rfl,cur,mA,k1,k3,k4,k5⟩:=uo;obtain ⟨rfl,FL,rfl⟩:=CM.2 rfl;by_cases gQ:es.length+(y::ys).length<=cap
   .have ho0:o'=0:=by
     rcases FL with FL|FL
     .exact FL
     .rw [aca] at gQ; omega
    subst ho0;have hle:(es.length+(y::ys).length)*esz<=cap*esz:=aaR _ gQ;have cP:=hA.T3 po b es.length cap cur mA gQ (by rw [f2,y3,<- abk,k4]; exact hle);rw [f2] at cP;generalize Ub:(cur.toList.take (es.length*esz)++us++cur.toList.drop (es.length*esz+us.length)).toArray=cur2 at cP;have nW:cur.toList.length=cap*esz:=by rw [show cur.toList.length=cur.size from ab9,k4]
    have hll:es.length*esz<=cap*esz:=aaR _ k1;have Uc:cur2.size=cap*esz:=by
     rw [<- Ub,acu];simp only [aaL,acg,acL,y3,nW];rw [abk] at hle;omega
    have Dp:∀ o',R.I b o'->cur2[o']?=cur[o']?:=λ o' hi=>by
     have ho:o' < es.length*esz:=Nat.lt_of_not_le λ hle=>k5 o' hle hi
     rw [<- Ub,acq];simp only [adl];rw [abN (by rw [acg]; omega),ab5,if_pos ho,ab7]
    have new:(w.setRow b cur2).heap[b]?=some (.cells cur2 elem (0,0)):=setRow_heap w b cur cur2 elem (0,0) mA;obtain ⟨r0,r1,r2⟩:=h.Ye (cur2:=cur2) (n:=(es.length+(y::ys).length)*esz) (r1:=.bC (aC ts j (.tok (es.length+(y::ys).length) b cap))) (go:=.bC (aC fs j (es.length+(y::ys).length)) esz elem) kx ck ⟨j,_,_,ht⟩
     (yu.set ht ⟨by omega,λ e=>by omega⟩) (λ b' nt=>(Pc nt).elim (λ e=>by rw [e]; exact ⟨j,_,_,ht⟩) (λ x=>x)) mA Dp (λ _=>Db.set cV ⟨rfl,cur2,new,gQ,k3,Uc,λ o' An hi=>by
      rcases hi with hi|⟨_,hi⟩
      .exact k5 o' (adR (aaR _ (Nat.le_add_right _ _)) An) hi
      .omega⟩ (λ i f c hi=>cV.2.1 i j _ _ _ _ _ hi ht) (λ i f b' c de hi=>by
       have TG:b'≠b:=λ e=>by subst e; exact de (cV.2.1 i j _ _ _ _ _ hi ht)
       refine ⟨setRow_other w b b' cur2 TG,λ o' An=>?_⟩;rcases An with An|⟨An,_⟩
       .exact An
       .exact absurd An TG))
    refine ⟨_,_,_,_,β,lU cP,.inl rfl,r1.put o.dst ?_,by rw [bQ]; exact r2⟩;have hxs:cur.toList.take (es.length*esz)=xs:=by
     have XC:xs.length=es.length*esz:=x3;apply ad9;intro j;rw [ab5];split
     .rename_i hj;have Mj:j < xs.length:=by omega
      have Al:=tV j xs[j] (aaN Mj);rw [eZ,ab1,cell_of_row w b j cur elem (0,0) mA] at Al;rw [ab7,Al,aaN Mj]
     .rw [adU (by omega)]
    refine Rel.list (Du (vs:=xs++us) (kZ x0 y0) (by rw [eT]; exact (x1.mono r0).append (y1.mono r0)) (jP x2 y2) (λ j v hj=>?_) (λ j hj=>.inr ⟨rfl,by rw [aaL,x3,y3,<- abk] at hj; exact hj⟩)) (by simp) gQ ⟨_,az ck,_,az ht,aaK _,λ _=>⟨rfl,.inl rfl,rfl⟩⟩;rw [cell_of_row _ _ j _ _ _ new,<- Ub,hxs];simp only [adl];rw [abN (acJ.1 hj).1];exact hj
   .have cP:=hA.grow po ⟨b,o',none⟩ es.length cap xs (by rw [x3,f2]) tV (by omega) (by omega) (growslice_fits (by omega) (by rw [f3]; exact hb));exact fresh (λ b c=>⟨by omega,λ e=>by omega⟩) cP
def Ud {m:Nat} (h:nth fs j=some m):FQ fs j n=aC fs j n:=by
 unfold FQ;cases hb:Nat.beq j fs.length with
 |false=>rfl
 |true=>
  have:=aad hb;have:=bX h;omega
def Ci (h:bG E R w β s a) {ys:List AV} 
  (lU:∀ {c:Value} {w':World},(abC #[t,u] o.type #[cx,cy]).run E.P w=.ok c w'->(execOp a.eval o).run E.P w=.ok (.value c) w')
  (JZ:1<=eb) (hz:z.cells.length=esz) (yf:z.bN=true)
  (f2:ie.size=esz) (f3:ie.bytes=eb) (f6:jy ie=some z)
  (h0:Rel R w (.list (.bC id j) esz es) cx) (hA:∀ zc:Value,ie.zero=some zc->Apd E.P w t u o.type elem ie zc cy (y::ys).length us)
  (y0:jX esz (y::ys)) (y1:bj R w (aH (y::ys)) us) (y2:∀ v∈us,v.oneCell'=true) (y3:us.length=(y::ys).length*esz)
  (kx:nth s.G id=some (.bC fs esz elem)) (T7:MC fs j es.length=true) (hb:(es.length+(y::ys).length)*eb<=140737488355328) :
  c8 E R w β s a o ((s.cM (aC s.G id (.bC (FQ fs j (es.length+(y::ys).length)) esz elem))).put o.dst (.v (.list (.bC id j) esz (es++(y::ys))))):=by
 unfold MC at T7;rw [Bool.or_eq_true,decide_eq_true_eq,aag] at T7;rcases T7 with T7|⟨hj,hl⟩
 .have de:Nat.beq j fs.length=false:=by
   cases hb:Nat.beq j fs.length with
   |false=>rfl
   |true=>
    have:=aad hb;have:=bX T7;omega
  unfold FQ;rw [de];exact rN h lU JZ hz yf f2 f3 f6 h0 hA y0 y1 y2 y3 kx T7 hb
 .have rO:FQ fs j (es.length+(y::ys).length)=fs++[es.length+(y::ys).length]:=by
   unfold FQ;rw [hj];rfl
  rw [rO];have hj:=aad hj;have hl:=aad hl;subst hj;have du:=bX kx;rw [<- h.g.len] at du;obtain ⟨ro,ck⟩:∃ ro,nth R.obj id=some ro:=⟨R.obj[id],by rw [bk]; exact aaN du⟩;obtain ⟨ts,rfl,z1,z2,z3⟩:=h.T1 kx (nfs:=[0]) (nts:=[.bK]) rfl (λ j f t h1 h2=>by
   cases j with
   |zero=>simp only [nth] at h1 h2; cases h1; cases h2; exact rfl
   |succ j=>simp [nth] at h1) (λ j f b c hj=>by
   cases j with
   |zero=>simp only [nth] at hj; cases hj
   |succ j=>simp [nth] at hj) ck
  have key:=rN z2 lU JZ hz yf f2 f3 f6 (h0.mono z3.ext) hA y0 (y1.mono z3.ext) y2 y3 (fs:=fs++[0]) (az kx) (by rw [hl]; exact dL _ _) hb;have e1:aC (fs++[0]) fs.length (es.length+(y::ys).length)=fs++[es.length+(y::ys).length]:=by
   rw [eY,List.set_append_right _ _ (aaK _),afZ];rfl
  have e2:∀ x y:GO,aC (aC s.G id x) id y=aC s.G id y:=λ x y=>by rw [eY,eY,eY,List.set_set]
  rw [e1] at key;refine c8.step rfl z3 ?_;have e3:((s.cM (aC s.G id (.bC (fs++[0]) esz elem))).cM (aC (s.cM (aC s.G id (.bC (fs++[0]) esz elem))).G id (.bC (fs++[es.length+(y::ys).length]) esz elem)))=s.cM (aC s.G id (.bC (fs++[es.length+(y::ys).length]) esz elem)):=by
   simp only [St.cM,e2]
  rw [e3] at key;exact key
def AP (h:bG E R w β s a) {t u:TypeId} {cx cy:Value} 
  (lU:∀ {c:Value} {w':World},(abC #[t,u] o.type #[cx,cy]).run E.P w=.ok c w'->(execOp a.eval o).run E.P w=.ok (.value c) w')
  {i:TI} (hk:i.k=.sl elem esz ag eb (some z)) (JZ:1<=eb) (hz:z.cells.length=esz) (yf:z.bN=true)
  (f1:E.P.info? elem=some ie) (f2:ie.size=esz) (f3:ie.bytes=eb) (f6:jy ie=some z)
  (h0:Rel R w x cx) (hA:∀ zc:Value,ie.zero=some zc->Apd E.P w t u o.type elem ie zc cy ys.length us)
  (y0:jX esz ys) (y1:bj R w (aH ys) us) (y2:∀ v∈us,v.oneCell'=true) (y3:us.length=ys.length*esz)
  (ha:jz s.G elem esz eb x ys=some (true,v,G')) :
  c8 E R w β s a o ((s.cM G').put o.dst (.v v)):=by
 obtain ⟨zc,yg,MS⟩:=fG f6;have hA':=hA;have hA:=hA zc yg;obtain ⟨d1,d2⟩:=Rel.cells (MS R w) yf;have xm:zc.cells.size=esz:=by rw [<- hz,d1.length]; simp
 unfold jz at ha;split at ha
 .rename_i k sz es;have hus:us=[]:=acK (by simpa using y3);have hG:G'=s.G/\Rel R w v cx:=by
   split at ha
   .injection ha with ha; injection ha with _ ha; injection ha with p q;subst p; subst q;exact ⟨rfl,h0⟩
   .injection ha with ha; injection ha with _ ha; injection ha with p q;subst p; subst q;exact ⟨rfl,h0⟩
  obtain ⟨rfl,hvr⟩:=hG;refine aM (s:=s) h (c:=cx) (lU ?_) hvr;cases h0 with
  |nq=>exact hA.zero rfl _ _ _ (aaK 0)
  |kP=>exact hA.zero rfl _ _ _ (aaK 0)
  |pd=>exact hA.zero rfl _ _ _ (aaK 0)
  |qq=>exact hA.zero rfl _ _ _ (aaK 0)
  |qQ=>exact hA.zero rfl _ _ _ (aaK 0)
  |list hr hlen lS _=>exact hA.zero rfl _ _ _ lS
 .rename_i k sz es y ys hA;have po:0 < (y::ys).length:=by simp
  have grown:∀ {n old:Nat} {xs:List Value} {es':List AV},(es'.length=n)->jX esz es'->bj R w (aH es') xs->(∀ v∈xs,v.oneCell'=true)->xs.length=n*esz ->
    (n+(y::ys).length)*eb<=140737488355328->n+(y::ys).length<=maxLen->∀ (R':ak) (G2:List GO) (id:Nat),
    bG E R' (w.drew.alloc (.cells (xs.toArray++us.toArray++aaS zc.cells (grownCap w (n+(y::ys).length) old elem - (n+(y::ys).length))) elem)) β (s.cM G2) a ->
    Step R w β s.boxes R' (w.drew.alloc (.cells (xs.toArray++us.toArray++aaS zc.cells (grownCap w (n+(y::ys).length) old elem - (n+(y::ys).length))) elem)) β s.boxes ->
    (∀ j,j < (n+(y::ys).length)*esz->R'.I w.heap.size j)->nth R'.obj id=some (.tok (n+(y::ys).length) w.heap.size (grownCap w (n+(y::ys).length) old elem) 0) ->
    (abC #[t,u] o.type #[cx,cy]).run E.P w=.ok (.slice (some ⟨w.heap.size,0,none⟩) (n+(y::ys).length) (grownCap w (n+(y::ys).length) old elem)) (w.drew.alloc (.cells (xs.toArray++us.toArray++aaS zc.cells (grownCap w (n+(y::ys).length) old elem - (n+(y::ys).length))) elem)) ->
    c8 E R w β s a o ((s.cM G2).put o.dst (.v (.list (.own id) esz (es'++(y::ys))))):=by
   intro n old xs es' X8 aeb hxr AG Tf _ _ R' G2 id cV Ph hI cG cP;refine ⟨_,_,_,R',β,lU cP,.inl rfl,cV.put o.dst ?_,by rw [bQ]; exact Ph⟩;have e:=Ph.ext;refine Rel.list (Du (vs:=xs++us) (kZ aeb y0) (by rw [eT]; exact (hxr.mono e).append (y1.mono e)) (jP AG y2) (λ j v hj=>?_) (λ j hj=>hI j (by rw [aaL,Tf,y3,<- abk] at hj; exact hj))) (by simp [X8]) (grownCap_ge w _ _ _) ⟨_,cG,aaK _,λ _=>⟨rfl,.inl rfl,rfl⟩⟩;have xo:(w.drew.alloc (.cells (xs.toArray++us.toArray++aaS zc.cells (grownCap w (n+(y::ys).length) old elem - (n+(y::ys).length))) elem)).heap[w.heap.size]?=some (.cells (xs.toArray++us.toArray++aaS zc.cells (grownCap w (n+(y::ys).length) old elem - (n+(y::ys).length))) elem (0,0)):=heap_alloc_new w.drew _;rw [cell_of_row _ _ j _ _ _ xo];have du:=(acJ.1 hj).1;rw [<- ab7];simp only [adF,acq];rw [<- acq,abN du];exact hj
  have Ue:∀ {n old:Nat} {xs:List Value},xs.length=n*esz->n+(y::ys).length<=maxLen->(xs.toArray++us.toArray++aaS zc.cells (grownCap w (n+(y::ys).length) old elem - (n+(y::ys).length))).size=grownCap w (n+(y::ys).length) old elem*esz:=by
   intro n old xs Tf _;have FR:=grownCap_ge w (n+(y::ys).length) old elem;simp only [adT,acu,size_zeroCells,xm,Tf,y3,<- abk];congr 1;omega
  have fresh:∀ {n old:Nat} {xs:List Value} {es':List AV},(es'.length=n)->jX esz es'->bj R w (aH es') xs->(∀ v∈xs,v.oneCell'=true)->xs.length=n*esz ->
    (n+(y::ys).length)*eb<=140737488355328->n+(y::ys).length<=maxLen ->
    (abC #[t,u] o.type #[cx,cy]).run E.P w=.ok (.slice (some ⟨w.heap.size,0,none⟩) (n+(y::ys).length) (grownCap w (n+(y::ys).length) old elem)) (w.drew.alloc (.cells (xs.toArray++us.toArray++aaS zc.cells (grownCap w (n+(y::ys).length) old elem - (n+(y::ys).length))) elem)) ->
    c8 E R w β s a o ((s.cM (s.G++[.tok (n+(y::ys).length) esz elem])).put o.dst (.v (.list (.own s.G.length) esz (es'++(y::ys))))):=by
   intro n old xs es' X8 aeb hxr AG Tf hb hm cP;obtain ⟨r1,r2⟩:=h.adX (cur:=xs.toArray++us.toArray++aaS zc.cells (grownCap w (n+(y::ys).length) old elem - (n+(y::ys).length))) (elem:=elem) (grownCap_ge w (n+(y::ys).length) old elem) (grownCap_le_maxLen w _ old elem hm) (Ue Tf hm);exact grown X8 aeb hxr AG Tf hb hm _ _ _ r1 r2 (λ j hj=>.inr ⟨rfl,hj⟩) (by rw [<- h.g.len]; exact dL _ _) cP
  have hml:∀ {n:Nat},(n+(y::ys).length)*eb<=140737488355328->n+(y::ys).length<=140737488355328:=λ {n} hb=>adR (adi _ JZ) hb
  split at ha
  .injection ha with ha; injection ha with hc ha; injection ha with p q;subst p; subst q;have hb:=of_decide_eq_true hc;cases h0 with
   |list _ _ _ MM=>exact MM.elim
   |nq=>
    simp only [acf] at hb;have hm:=hml hb;refine fresh (n:=0) (old:=0) (xs:=[]) (es':=[]) rfl (λ e he=>by simp at he) .nil (by simp) (by simp) hb (by unfold maxLen; omega) ?_;have cP:=hA.nil po (by omega) (by rw [f3]; rw [ab1] at hb; omega);simpa using cP
  .split at ha
   .rename_i iJ;have iJ:=aad iJ;subst iJ;injection ha with ha; injection ha with hc ha; injection ha with p q;subst p; subst q;have hb:=of_decide_eq_true hc;have hm:=hml hb;obtain ⟨x0,xs,x1,x2,x3,x4⟩:=mB (esz:=sz) h0 (.inr rfl);rcases x4 with ⟨rfl,rfl,ad,rfl,hd⟩|⟨b,o',cap,rfl,Yk,xk,tV,_⟩
    .rcases hd with rfl|hd
     .cases h0
     .cases hd
    .have lS:cap=es.length:=xk;subst lS;refine fresh (n:=es.length) (old:=es.length) (xs:=xs) (es':=es) rfl x0 x1 x2 x3 hb (by unfold maxLen; omega) ?_;exact hA.grow po ⟨b,o',none⟩ es.length es.length xs (by rw [x3,f2]) tV (by omega) (by omega) (growslice_fits (by omega) (by rw [f3]; exact hb))
   .cases ha
  .rename_i id;split at ha
   .rename_i f cr e' kx;split at ha
    .rename_i fP;simp only [aag] at fP;obtain ⟨⟨q1,q2⟩,q3⟩:=fP;have q1:=aad q1;have q2:=aad q2;have q3:=aad q3;subst q1; subst q2; subst q3;injection ha with ha; injection ha with hc ha; injection ha with p q;subst p; subst q;simp only [aag] at hc;have T7:=of_decide_eq_true hc.1;have hb:=of_decide_eq_true hc.2;subst T7;have hm:=hml hb;obtain ⟨x0,xs,x1,x2,x3,x4⟩:=mB (esz:=sz) h0 (.inr rfl);rcases x4 with ⟨rfl,rfl,ad,rfl,hd⟩|⟨b,o',cap,rfl,Yk,xk,tV,xE⟩
     .obtain rfl:ad=none:=by
       rcases hd with hd|hd
       .exact hd
       .cases hd
      cases h0 with
      | @qq _ _ ro ck hon=>
      have cV:=h.g.obj id _ _ kx ck;cases ro with
      |none=>exact cV.elim
      |cN _=>exact cV.elim
      |tok f' g c k0=>
       obtain ⟨rfl,_⟩:=cV;simp [sQ] at hon
      |bC _=>exact cV.elim
      |bK=>
       simp only [acf] at hb;have cP:=hA.nil po (by omega) (by rw [f3]; rw [ab1] at hb; omega);have iJ:=Ue (n:=0) (old:=0) (xs:=[]) (by simp) (by unfold maxLen; omega);obtain ⟨r1,r2⟩:=h.TX (cur:=[].toArray++us.toArray++aaS zc.cells (grownCap w (0+(y::ys).length) 0 e' - (0+(y::ys).length))) (elem:=e') (n:=0+(y::ys).length) (cap:=grownCap w (0+(y::ys).length) 0 e') kx ck (λ b c=>by simp only [dy]; omega) (grownCap_ge w _ _ _) (grownCap_le_maxLen w _ _ _ (by unfold maxLen; omega)) iJ;exact grown (n:=0) (es':=[]) rfl (λ e he=>by simp at he) .nil (by simp) (by simp) hb (by unfold maxLen; omega) _ _ _ r1 r2 (λ j hj=>.inr ⟨rfl,hj⟩) (az ck) (by simpa using cP)
     .obtain ⟨ro,ck,CM⟩:=xk;have cV:=h.g.obj id _ _ kx ck;cases ro with
      |none=>exact cV.elim
      |bK=>exact CM.elim
      |cN _=>exact cV.elim
      |bC _=>exact cV.elim
      |tok f' g c k0=>
       obtain ⟨rfl,cur,mA,k1,k3,k4,k5⟩:=cV;obtain ⟨rfl,gl,rfl⟩:=CM.2 rfl;by_cases gQ:es.length+(y::ys).length<=cap
       .have gl:=gl.resolve_right (by rw [aca] at gQ; omega);subst gl;have hle:(es.length+(y::ys).length)*sz<=cap*sz:=aaR _ gQ;have cP:=hA.room po b o' es.length cap cur mA gQ (by rw [f2,ad7,y3,<- abk,k4]; omega);rw [f2] at cP;obtain ⟨r0,r1,r2⟩:=h.Yc (news:=us) (n:=es.length+(y::ys).length) kx ck (by omega) gQ mA k4 k3 (by rw [y3,<- abk]);refine ⟨_,_,_,_,β,lU cP,.inl rfl,r1.put o.dst ?_,by rw [bQ]; exact r2⟩;have xo:=setRow_heap w b cur (cur.toList.take (o'+es.length*sz)++us++cur.toList.drop (o'+es.length*sz+us.length)).toArray e' (0,0) mA;have XC:xs.length=es.length*sz:=x3;have nW:cur.toList.length=o'+cap*sz:=by rw [show cur.toList.length=cur.size from ab9,k4]
        have FK:es.length*sz<=cap*sz:=aaR _ (by omega);have rM:∀ j v,(xs++us)[j]?=some v->(w.setRow b (cur.toList.take (o'+es.length*sz)++us++cur.toList.drop (o'+es.length*sz+us.length)).toArray).cell? ⟨b,o'+j,none⟩=some v:=λ j v hj=>by
         rw [cell_of_row _ _ (o'+j) _ _ _ xo];simp only [adl];by_cases hjx:j < xs.length
         .rw [abN hjx] at hj;have Al:=tV j v hj;rw [eZ,cell_of_row w b (o'+j) cur e' (0,0) mA] at Al;rw [acq,abN (by rw [acg]; omega),ab5,if_pos (by omega),ab7];exact Al
         .have du:=(acJ.1 hj).1;rw [aaL] at du;rw [acN (by omega)] at hj;have ht:(cur.toList.take (o'+es.length*sz)).length=o'+es.length*sz:=by rw [acg]; omega
          rw [acq,acN (by rw [ht]; omega),ht,abN (by omega),show o'+j - (o'+es.length*sz)=j - xs.length by omega];exact hj
        refine Rel.list (oR (kZ x0 y0) (jG.make (vs:=xs++us) (by rw [eT]; exact (x1.mono r0).append (y1.mono r0)) (jP x2 y2) rM (λ j hj=>.inr ⟨rfl,?_⟩))) (by simp) gQ ⟨_,az ck,aaK _,λ _=>⟨rfl,.inl rfl,rfl⟩⟩;rw [eT,aaL,x1.length,y1.length,XC,y3,<- abk] at hj;omega
       .have cP:=hA.grow po ⟨b,o',none⟩ es.length cap xs (by rw [x3,f2]) tV (by omega) (by omega) (growslice_fits (by omega) (by rw [f3]; exact hb));obtain ⟨r1,r2⟩:=h.TX (cur:=xs.toArray++us.toArray++aaS zc.cells (grownCap w (es.length+(y::ys).length) cap e' - (es.length+(y::ys).length))) (elem:=e') (n:=es.length+(y::ys).length) (cap:=grownCap w (es.length+(y::ys).length) cap e') kx ck (λ b c=>⟨by omega,λ e=>by omega⟩) (grownCap_ge w _ _ _) (grownCap_le_maxLen w _ _ _ (by unfold maxLen; omega)) (Ue x3 (by unfold maxLen; omega));exact grown rfl x0 x1 x2 x3 hb (by unfold maxLen; omega) _ _ _ r1 r2 (λ j hj=>.inr ⟨rfl,hj⟩) (az ck) cP
    .cases ha
   .cases ha
  .rename_i id j;split at ha
   .rename_i fs cr e' kx;split at ha
    .rename_i fP;simp only [aag] at fP;obtain ⟨⟨q1,q2⟩,q3⟩:=fP;have q1:=aad q1;have q2:=aad q2;have q3:=aad q3;subst q1; subst q2; subst q3;injection ha with ha; injection ha with hc ha; injection ha with p q;subst p; subst q;simp only [aag,decide_eq_true_eq] at hc;exact Ci h lU JZ hz yf f2 f3 f6 h0 (λ zc' Uf=>hA' zc' Uf) y0 y1 y2 y3 kx hc.1 hc.2
    .cases ha
   .cases ha
  .cases ha
 .injection ha with ha; injection ha with _ ha; injection ha with p q;subst p; subst q;refine aM (s:=s) h (c:=cx) (lU ?_) h0;cases h0 with
  |pf=>exact hA.zero rfl _ _ _ (aaK 0)
  |eK _ _ lS=>exact hA.zero rfl _ _ _ lS
 .rename_i id f' off sz len y ys hA;split at ha
  .rename_i es cr e' kx;split at ha
   .rename_i fP;simp only [aag] at fP;obtain ⟨⟨q1,q2⟩,q3⟩:=fP;have q1:=aad q1;have q2:=aad q2;have q3:=aad q3;subst q1; subst q2; subst q3;injection ha with ha; injection ha with hc ha; injection ha with p q;subst p; subst q;simp only [aag,decide_eq_true_eq] at hc;exact tT h lU JZ hz yf f2 f3 f6 h0 (λ zc' Uf=>hA' zc' Uf) y0.g y1 y2 y3 kx hc.1.1.1 hc.1.1.2 hc.1.2 hc.2
   .cases ha
  .cases ha
 .injection ha with ha; injection ha with _ ha; injection ha with p q;subst p; subst q;refine aM (s:=s) h (c:=cx) (lU ?_) h0;cases h0 with
  |AF=>exact hA.zero rfl _ _ _ (aaK 0)
  |gW _ _ lS=>exact hA.zero rfl _ _ _ lS
 .rename_i id j' sz len y ys hA;split at ha
  .rename_i rows cr e' kx;split at ha
   .rename_i fP;simp only [aag] at fP;obtain ⟨⟨q1,q2⟩,q3⟩:=fP;have q1:=aad q1;have q2:=aad q2;have q3:=aad q3;subst q1; subst q2; subst q3;injection ha with ha; injection ha with hc ha; injection ha with p q;subst p; subst q;simp only [aag,decide_eq_true_eq] at hc;exact Ch h lU JZ hz yf f2 f3 f6 h0 (λ zc' Uf=>hA' zc' Uf) y0 y1 y2 y3 kx hc.1.1 hc.1.2 hc.2
   .cases ha
  .cases ha
 .cases ha
def J1 (h:bG E R w β s a) (ho:o.op=.call { callee:=.builtin .append,args:=args,argTypes:=#[t,t] }) 
  (hl:uk E s.ae args.toList=some [x,.list k2 Mk ys]) {i:TI} (hi:E.ti t=some i) {elem esz eb:Nat} (hk:i.k=.sl elem esz ag eb (some z)) (Uc:ys=[]\/Mk=esz) (auo:1<=esz) (JZ:1<=eb) (hz:z.cells.length=esz) (yf:z.bN=true)
  (ha:jz s.G elem esz eb x ys=some (true,v,G')) :
  c8 E R w β s a o ((s.cM G').put o.dst (.v v)):=by
 have hr:=mZ h hl;generalize hv:args.toList.map a.eval=vs at hr;have hx:=lT (E:=E) (w:=w) ho vs hv;cases hr with
 | @cons _ cx _ _ h0 h1=>
 cases h1 with
 | @cons _ cy _ _ h1 h2=>
 cases h2;obtain ⟨lR,u,e1,e2,e3,e4,e5,e6⟩:=fu E hi;have hk0:=hk;rw [hk] at e5;obtain ⟨ie,ue,rfl,f1,f2,f3,f4,f5,f6⟩:=iS e5;have GK:(⟨[cx,cy]⟩:Array Value)=#[cx,cy]:=rfl;obtain ⟨y0,us,y1,y2,y3,y4⟩:=mB (esz:=esz) h1 Uc;refine AP h (cx:=cx) (cy:=cy) (t:=t) (u:=t) (λ hh=>?_) hk0 JZ hz yf f1 f2 f3 f6 h0 (λ zc yg=>?_) y0 y1 y2 y3 ha
 .rw [hx];simp only [builtin,GK,aba,hh,aaJ,ab6]
 .rcases y4 with ⟨rfl,rfl,ad,rfl,_⟩|⟨by',oy,aec,rfl,aup,_,Dw,yE⟩
  .refine ⟨λ _ base len cap TQ=>?_,λ hh=>absurd hh (by simp),λ hh=>absurd hh (by simp),λ hh=>absurd hh (by simp)⟩;cases ad <;> simp [abC,run_underlying e2,run_sizeOf w f1,afI,af0,TQ,storeCells,loadCells,loadCellsFrom] <;>
    cases base <;> simp [storeCells]
  .refine ⟨λ hn base len cap TQ=>?_,λ hh h63 h48=>run_append_nil (P:=E.P) w t o.type elem ie zc e2 f1 yg _ _ aec us (by rw [y3,f2]) Dw hh h63 h48,λ _ b iG nw M1 FX hol hg h63 h48=>run_append_grow (P:=E.P) w t o.type elem ie zc e2 f1 yg b iG nw M1 FX hol _ _ aec us (by rw [y3,f2]) Dw hg h63 h48,λ _ g k iG nw cur hg gQ Dv=>rL (P:=E.P) w t o.type elem ie e2 f1 g k iG nw cur hg _ _ aec us (by rw [y3,f2]) Dw y2 gQ Dv⟩;rw [hn];simp [abC,run_underlying e2,run_sizeOf w f1,afI,af0,TQ,storeCells,loadCells,loadCellsFrom];cases base <;> simp [storeCells]
def J2 (h:ig sz es) (hc:aZ es=true):jX sz es:=by
 induction es with
 |nil=>intro e he; cases he
 |cons x es ih=>
  have yA:(x.closed&&aZ es)=true:=hc;rw [aag] at yA;intro e he;rcases afF.1 he with rfl|he
  .exact ⟨(h e List.mem_cons_self).1,(h e List.mem_cons_self).2,yA.1⟩
  .exact ih (λ e he=>h e (List.mem_cons_of_mem _ he)) yA.2 e he
def ak.Dx (R:ak) (id:Nat) (ro:RO):ak:=⟨R.I,aC R.obj id .none++[ro]⟩
def rP {R:ak} {r:RO} (cG:nth R.obj id=some r0) (h:nth (R.Dx id ro).obj i=some r):(i=id/\r=.none)\/(i≠id/\nth R.obj i=some r)\/(i=R.obj.length/\r=ro):=by
 rcases aq h with h|⟨h1,h2⟩
 .rcases aE cG h with h|h
  .exact .inl h
  .exact .inr (.inl h)
 .refine .inr (.inr ⟨?_,h2⟩);rw [h1,eY,ad3]
def Re {k:Nat} (ro:RO) (cG:nth R.obj id=some (.tok f b c k)):Ext R w (R.Dx id ro) w:=
 ⟨λ _ _ h=>h,λ _ _ _=>rfl,λ i r hr=>by
  by_cases e:id=i
  .subst e;rw [cG] at hr;cases hr;exact ⟨.none,dg (az cG),trivial⟩
  .exact ⟨r,dg (by rw [bE e]; exact hr),dy.refl r⟩,jN.refl w⟩
def Ug (h:bG E R w β s a) {f:FuncId} (hs:JN E f s o=some (true,s')):c8 E R w β s a o s':=by
 unfold JN at hs;split at hs
 .rename_i t x lo d ho hd;split at hs
  .split at hs
   .rename_i i id sz es k n wC hx FX;split at hs
    .rename_i elem esz ag wI z f0 cr ety hk kx;split at hs
     .rename_i fP;simp only [aag] at fP;have q1:=aad fP.1;have q2:=(aad fP.2).symm;subst q1; subst q2;obtain ⟨hc,rfl⟩:=cL hs;simp only [aag,decide_eq_true_eq] at hc;obtain ⟨GI,de,X8,Q7⟩:=hc;subst GI;obtain ⟨p,rfl⟩:∃ p:Nat,n=(p:Int):=⟨n.toNat,by omega⟩;rw [Int.toNat_natCast];have hp:p<=es.length:=by omega
      obtain ⟨lR,u,e1,e2,e3,e4,e5,e6⟩:=fu E wC;rw [hk] at e5;obtain ⟨ie,ue,rfl,f1,f2,f3,f4,f5,f6⟩:=iS e5;have rx:=bi h x;rw [hx] at rx;have gu:Rel R w (.list (.own id) sz es) (a.eval x):=rx;generalize kR:a.eval x=xv at gu;cases gu with
      |qq _ _=>simp at de
      | @list _ _ _ b o' len cap hr hlen lS MM=>
       subst hlen;obtain ⟨ro,ck,CM⟩:=MM;have cV:=h.g.obj id _ _ kx ck;cases ro with
       |none=>exact cV.elim
       |bK=>exact CM.elim
       |cN _=>exact cV.elim
       |bC _=>exact cV.elim
       |tok f' g c k0=>
        obtain ⟨rfl,cur,mA,k1,k3,k4,k5⟩:=cV;obtain ⟨rfl,gl,rfl⟩:=CM.2 rfl;have gl:=gl.resolve_right (by omega);subst gl;have hl:qp E s.ae (some lo)=some (some (.v (.int k (p:Int)))):=by simp [qp,FX]
        have hb:QU es.length (some (.v (.int k (p:Int)))) none=some (true,p,es.length):=by
         have d:decide ((0:Int)<=(p:Int)/\(p:Int)<=(es.length:Int))=true:=decide_eq_true (by omega);simp only [QU,C8,d,Int.toNat_natCast,Bool.and_self]
        obtain ⟨r1,_,_⟩:=sW (E:=E) true lS (yF h hl) (yF h (show qp E s.ae none=some none from rfl)) hb;have cP:(execOp a.eval o).run E.P w=.ok (.value (.slice (if cap=p then some ⟨b,o',none⟩ else some ⟨b,o'+p*sz,none⟩) (es.length - p) (cap - p))) w:=by
         simp only [execOp,ho,ad8,aba,run_underlying e2,aaJ,afy,kR,r1,run_sizeOf w f1,f2,ab6,aeH,adP,eZ] at *
        have e:=Re (R:=R) (w:=w) (.tok (es.length - p) b (cap - p) (o'+p*sz)) ck;have hmul:(cap - p)*sz+p*sz=cap*sz:=by rw [<- abk]; congr 1; omega
        have asr:(es.length - p)*sz+p*sz=es.length*sz:=by rw [<- abk]; congr 1; omega
        have live:∀ b',Live (R.Dx id (.tok (es.length - p) b (cap - p) (o'+p*sz))) b'->Live R b':=λ b' hl=>by
         obtain ⟨i,r,h1,h2⟩:=hl;rcases rP ck h1 with ⟨_,rfl⟩|⟨_,h1⟩|⟨_,rfl⟩
         .exact h2.elim
         .exact ⟨i,r,h1,h2⟩
         .exact ⟨id,_,ck,h2⟩
        have hG:bG E (R.Dx id (.tok (es.length - p) b (cap - p) (o'+p*sz))) w β (s.cM (aC s.G id .dead++[.tok (es.length - p) sz ety])) a:=by
         refine ⟨⟨by simp [St.cM,ak.Dx,eY,h.g.len],λ i gg r h1 h2=>?_,λ i j ri rj b' h1 h2 b1 b2=>?_,h.g.wf,λ g cs hg=>(h.g.fU g cs hg).mono e,h.g.lo⟩,h.b.keep e (λ _ _ _=>rfl) (λ _ _ _ _ hi=>hi) (λ _ _ _ hl=>live _ hl),h.t.mono e,h.n,h.d.mono e⟩
         .simp only [St.cM] at h1;rcases rP ck h2 with ⟨rfl,rfl⟩|⟨M2,h2⟩|⟨h3,rfl⟩
          .rw [dg (az kx)] at h1;cases h1;trivial
          .rcases aq h1 with h1|⟨h3,_⟩
           .rw [bE (adj M2)] at h1;exact (h.g.obj i gg r h1 h2).mono e (λ _ _=>rfl) (λ _ _ _ hi=>hi)
           .have:=bX h2;rw [h3,eY,ad3,h.g.len] at this;omega
          .rcases aq h1 with h1|⟨_,rfl⟩
           .have:=bX h1;rw [h3,eY,ad3,h.g.len] at this;omega
           .exact ⟨rfl,cur,mA,by omega,by omega,by omega,λ o2 ho2 hi=>k5 o2 (by omega) hi⟩
         .rcases rP ck h1 with ⟨_,rfl⟩|⟨m1,h1⟩|⟨m1,rfl⟩
          .exact b1.elim
          .rcases rP ck h2 with ⟨_,rfl⟩|⟨m2,h2⟩|⟨m2,rfl⟩
           .exact b2.elim
           .exact h.g.inj i j ri rj b' h1 h2 b1 b2
           .exact absurd (h.g.inj i id ri _ b' h1 ck b1 b2) m1
          .rcases rP ck h2 with ⟨_,rfl⟩|⟨m2,h2⟩|⟨m2,rfl⟩
           .exact b2.elim
           .exact absurd (h.g.inj j id rj _ b' h2 ck b2 b1) m2
           .omega
        have mh:Step R w β s.boxes (R.Dx id (.tok (es.length - p) b (cap - p) (o'+p*sz))) w β s.boxes:=by
         refine ⟨e,rfl,rfl,rfl,aaK _,λ _ _ _=>rfl,λ b' _ ho=>?_,λ _ _ h _ _=>h⟩;rcases ho with ho|ho
         .exact .inl (live b' ho)
         .exact .inr ho
        have xo:nth (R.Dx id (.tok (es.length - p) b (cap - p) (o'+p*sz))).obj s.G.length=some (.tok (es.length - p) b (cap - p) (o'+p*sz)):=by
         have:=dL (aC R.obj id .none) (RO.tok (es.length - p) b (cap - p) (o'+p*sz));rw [eY,ad3,h.g.len,<- eY] at this;exact this
        refine ⟨_,_,w,_,β,cP,.inl rfl,?_,by rw [bQ]; exact mh⟩;rw [hd];refine hG.put (some d) (x:=.v (.list (.own s.G.length) sz (es.drop p))) ?_;by_cases hcp:cap=p
        .rw [if_pos hcp];have he:es.drop p=[]:=acK (by rw [acL]; omega);exact Rel.list (by rw [he]; exact .nil) (by rw [acL]) (by omega) ⟨_,xo,aaK _,λ _=>⟨rfl,.inr (by omega),rfl⟩⟩
        .rw [if_neg hcp];exact Rel.list ((AH p hr).mono e) (by rw [acL]) (by omega) ⟨_,xo,aaK _,λ _=>⟨rfl,.inl rfl,rfl⟩⟩
     .cases hs
    .cases hs
   .cases hs
  .cases hs
 .cases hs
end ops
section
def bG.Pj (h:bG E R w β s a) {sz:Nat} (hg:nth s.G id=some (.bO es sz el)) (hm:nth s.G kY=some (.jv rows sz el)) (ck:nth R.obj id=some ro) (hts:nth R.obj kY=some (.bC ts))
  {t:TR} (hle:dy ro .none) (ht:Gy R w sz el es t) (hh:∀ f x c,t=.tok f x c->ro.has x) :
  bG E ((R.reset id .none).reset kY (.bC (ts++[t]))) w β (s.cM (aC (aC s.G id .dead) kY (.jv (rows++[es]) sz el))) a/\Step R w β s.boxes ((R.reset id .none).reset kY (.bC (ts++[t]))) w β s.boxes:=by
 have de:id≠kY:=λ e=>by
  subst e;rw [hg] at hm;cases hm
 have Rf:nth (R.reset id .none).obj kY=some (.bC ts):=by rw [ak.reset,bE de]; exact hts
 have Tc:nth (aC s.G id .dead) kY=some (.jv rows sz el):=by rw [bE de]; exact hm
 obtain ⟨q1,q2,q3⟩:=h.g.obj kY _ _ hm hts;have ext:Ext R w ((R.reset id .none).reset kY (.bC (ts++[t]))) w:=vE Rf (λ j t hj=>⟨t,tS hj,km.refl t⟩) (Ext.refl (R.reset id .none) w) |> λ e=>(vE ck hle (Ext.refl R w)).trans e
 have qV:∀ x,RO.has (.bC (ts++[t])) x->RO.has (.bC ts) x\/ro.has x:=λ x ⟨j,f,c,hj⟩=>by
  rcases cq hj with hj|⟨i,_,hi⟩
  .exact .inl ⟨j,f,c,hj⟩
  .cases i with
   |zero=>cases hi; exact .inr (hh _ _ _ rfl)
   |succ i=>cases hi
 have J3:∀ i r x,nth ((R.reset id .none).reset kY (.bC (ts++[t]))).obj i=some r->r.has x->(i=kY/\RO.has (.bC ts) x)\/(i=kY/\ro.has x)\/(i≠kY/\i≠id/\nth R.obj i=some r):=λ i r x h1 h2=>by
  rcases aE Rf h1 with ⟨rfl,rfl⟩|⟨k1,h1⟩
  .rcases qV x h2 with h2|h2
   .exact .inl ⟨rfl,h2⟩
   .exact .inr (.inl ⟨rfl,h2⟩)
  .rcases aE ck h1 with ⟨rfl,rfl⟩|⟨k2,h1⟩
   .exact h2.elim
   .exact .inr (.inr ⟨k1,k2,h1⟩)
 have live:∀ x,Live ((R.reset id .none).reset kY (.bC (ts++[t]))) x->Live R x:=λ x ⟨i,r,h1,h2⟩=>by
  rcases J3 i r x h1 h2 with ⟨_,k⟩|⟨_,k⟩|⟨_,_,k⟩
  .exact ⟨kY,_,hts,k⟩
  .exact ⟨id,_,ck,k⟩
  .exact ⟨i,r,k,h2⟩
 refine ⟨⟨⟨by simp [St.cM,ak.reset,h.g.len],λ i g r h1 h2=>?_,λ i j ri rj x h1 h2 b1 b2=>?_,h.g.wf,λ g cs hg=>(h.g.fU g cs hg).mono ext,h.g.lo⟩,h.b.keep ext (λ _ _ _=>rfl) (λ _ _ _ _ h=>h) (λ _ _ _ hl=>live _ hl),h.t.mono ext,h.n,h.d.mono ext⟩,?_⟩
 .rcases aE Rf h2 with ⟨rfl,rfl⟩|⟨k1,h2⟩
  .simp only [St.cM] at h1;rw [az Tc] at h1;cases h1;have Yl:∀ i f b c f' c',nth ts i=some (.tok f b c)->t=.tok f' b c'->False:=λ i f b c f' c' hi ht=>de (h.g.inj id _ _ _ b ck hts (hh _ _ _ ht) ⟨i,f,c,hi⟩)
   refine ⟨by simp [q1],λ i j f b c f' c' hi hj=>?_,λ j row t' hf tU=>?_⟩
   .rcases cq hi with hi|⟨k,hk,hi⟩
    .rcases cq hj with hj|⟨k',mr,hj⟩
     .exact q2 i j _ _ _ _ _ hi hj
     .cases k' with
      |zero=>simp only [nth,agd] at hj; exact (Yl _ _ _ _ _ _ hi hj).elim
      |succ _=>cases hj
    .cases k with
     |succ _=>cases hi
     |zero=>
      rcases cq hj with hj|⟨k',mr,hj⟩
      .simp only [nth,agd] at hi; exact (Yl _ _ _ _ _ _ hj hi).elim
      .cases k' with
       |zero=>omega
       |succ _=>cases hj
   .rcases cq hf with GI|⟨k,hk,GI⟩
    .rcases cq tU with tU|⟨k',mr,tU⟩
     .exact (q3 j row t' GI tU).mono ext λ _ _ _ _=>⟨rfl,λ _ h=>h⟩
     .have:=bX GI;omega
    .rcases cq tU with tU|⟨k',mr,tU⟩
     .have:=bX tU;omega
     .have MM:k=k':=by omega
      subst MM;cases k with
      |succ _=>cases GI
      |zero=>
       cases GI; cases tU;exact ht.mono ext λ _ _ _ _=>⟨rfl,λ _ h=>h⟩
  .simp only [St.cM] at h1;rw [bE (adj k1)] at h1;rcases aE ck h2 with ⟨rfl,rfl⟩|⟨k2,h2⟩
   .rw [az hg] at h1;cases h1;exact trivial
   .rw [bE (adj k2)] at h1;exact (h.g.obj i g r h1 h2).mono ext (λ _ _=>rfl) (λ _ _ _ h=>h)
 .rcases J3 i ri x h1 b1 with ⟨k1,k2⟩|⟨k1,k2⟩|⟨k1,k2,k3⟩
  .rcases J3 j rj x h2 b2 with ⟨l1,l2⟩|⟨l1,l2⟩|⟨l1,l2,l3⟩
   .omega
   .omega
   .exact absurd (h.g.inj kY j _ _ x hts l3 k2 b2).symm l1
  .rcases J3 j rj x h2 b2 with ⟨l1,l2⟩|⟨l1,l2⟩|⟨l1,l2,l3⟩
   .omega
   .omega
   .exact absurd (h.g.inj id j _ _ x ck l3 k2 b2).symm l2
  .rcases J3 j rj x h2 b2 with ⟨l1,l2⟩|⟨l1,l2⟩|⟨l1,l2,l3⟩
   .exact absurd (h.g.inj kY i _ _ x hts k3 l2 b1).symm k1
   .exact absurd (h.g.inj id i _ _ x ck k3 l2 b1).symm k2
   .exact h.g.inj i j ri rj x k3 l3 b1 b2
 .refine ⟨ext,rfl,rfl,rfl,aaK _,λ _ _ _=>rfl,λ b _ ho=>?_,λ _ _ h _ _=>h⟩;rcases ho with ho|ho
  .exact .inl (live b ho)
  .exact .inr ho
def bG.aef (h:bG E R w β s a) {sz:Nat} (hg:nth s.G id=some (.bO es sz el)) (hm:nth s.G kY=some (.jv rows sz el)) (nW:aZ es=true) :
  ∃ R',bG E R' w β (s.cM (aC (aC s.G id .dead) kY (.jv (rows++[es]) sz el))) a/\Step R w β s.boxes R' w β s.boxes/\∀ f len c,f=es.length->len=es.length->Rel R w (.eK id f 0 sz len) c->Rel R' w (.gW kY rows.length sz len) c:=by
 have de:id≠kY:=λ e=>by
  subst e;rw [hg] at hm;cases hm
 have ex:∀ {i:Nat} {g:GO},nth s.G i=some g->∃ ro,nth R.obj i=some ro:=λ {i g} hi=>by
  have:=bX hi;rw [<- h.g.len] at this;exact ⟨R.obj[i],by rw [bk]; exact aaN this⟩
 obtain ⟨ro,ck⟩:=ex hg;obtain ⟨rm,hrm⟩:=ex hm;have cV:=h.g.obj id _ _ hg ck;have J4:=h.g.obj kY _ _ hm hrm;cases rm with
 |none=>exact J4.elim
 |bK=>exact J4.elim
 |cN _=>exact J4.elim
 |tok _ _ _ _=>exact J4.elim
 |bC ts=>
 have hlen:ts.length=rows.length:=J4.1;have Rf:nth (R.reset id .none).obj kY=some (.bC ts):=by rw [ak.reset,bE de]; exact hrm
 cases ro with
 |none=>exact cV.elim
 |cN _=>exact cV.elim
 |bC _=>exact cV.elim
 |bK=>
  have FK:es=[]:=cV;subst FK;obtain ⟨r1,r2⟩:=h.Pj hg hm ck hrm (t:=.bK) trivial rfl (λ _ _ _ e=>by cases e);refine ⟨_,r1,r2,λ f len c e1 e2 hc=>?_⟩;subst e1; subst e2;cases hc with
  |pf _ _=>exact Rel.AF (az Rf) trivial
  |eK hr gl _=>
   rw [ck] at hr;cases hr;exact gl.elim
 |tok f0 b c k=>
  obtain ⟨rfl,rfl,h1,cur,vs,h2,h3,h4,h5,h6,h7,h8,h9⟩:=cV;obtain ⟨r1,r2⟩:=h.Pj hg hm ck hrm (t:=.tok es.length b c) trivial ⟨rfl,J2 h1 nW,cur,vs,h2,h3,h4,h5,h6,h7,h8,h9⟩ (λ _ _ _ e=>by cases e; exact rfl);refine ⟨_,r1,r2,λ f len c' e1 e2 hc=>?_⟩;subst e1; subst e2;generalize hl:es.length=n at hc;cases hc with
  |pf hr hon=>
   rw [ck] at hr;cases hr;have:1<=es.length:=hon;omega
  |eK hr gl lS=>
   rw [ck] at hr;cases hr;obtain ⟨p1,p2⟩:=gl;obtain ⟨p3,p4,p5⟩:=p2 hl.symm;subst hl;refine Rel.gW (az Rf) ⟨.tok es.length b c,?_,aaK _,λ _=>⟨p3,?_,by omega⟩⟩ lS
   .rw [<- hlen,bk,acN (aaK _),afZ];rfl
   .rcases p5 with p5|p5
    .exact .inl (by rw [p5,acM])
    .exact .inr p5
def Cj (h:bG E R w β s a) (ho:o.op=.call { callee:=.builtin .append,args:=args,argTypes:=#[t,t] }) {sz len rid cap y1 y2 y3 y4:Nat} 
  (hl:uk E s.ae args.toList=some [.eK id f off sz len,.tP rid 0 1 1 cap]) (cG:nth s.G rid=some (.row [.gW y1 y2 y3 y4] el))
  {i:TI} (hi:E.ti t=some i) {elem esz eb:Nat} (hk:i.k=.sl elem esz ag eb (some z)) (Uc:esz=1) (JZ:1<=eb) (hz:z.cells.length=esz) (yf:z.bN=true)
  (ha:jz s.G elem esz eb (.eK id f off sz len) [.gW y1 y2 y3 y4]=some (true,v,G')) :
  c8 E R w β s a o ((s.cM G').put o.dst (.v v)):=by
 have hr:=mZ h hl;generalize hv:args.toList.map a.eval=vs at hr;have hx:=lT (E:=E) (w:=w) ho vs hv;cases hr with
 | @cons _ cx _ _ h0 h1=>
 cases h1 with
 | @cons _ cy _ _ h1 h2=>
 cases h2;obtain ⟨lR,u,e1,e2,e3,e4,e5,e6⟩:=fu E hi;rw [hk] at e5;obtain ⟨ie,ue,rfl,f1,f2,f3,f4,f5,f6⟩:=iS e5;have GK:(⟨[cx,cy]⟩:Array Value)=#[cx,cy]:=rfl;subst Uc;cases h1 with
 | @tP _ _ _ _ _ b hb lS=>
 obtain ⟨us,k1,k2,k3,k4⟩:=h.g.obj rid _ _ cG hb;have hul:us.length=1:=k2.length.symm;have Dw:∀ j v,us[j]?=some v->w.cell? ((⟨b,0,none⟩:Addr).add j)=some v:=λ j v hj=>by
  rw [eZ,ab1,cell_of_row w b j _ el (0,0) k1];simpa using hj
 unfold jz at ha;simp only at ha;split at ha
 .rename_i es cr e' kx;split at ha
  .rename_i fP;simp only [aag] at fP;obtain ⟨⟨q1,q2⟩,q3⟩:=fP;have q1:=aad q1;have q2:=aad q2;have q3:=aad q3;subst q1; subst q2; subst q3;injection ha with ha; injection ha with hc ha; injection ha with p q;subst p; subst q;simp only [aag,decide_eq_true_eq] at hc;refine tT h (cx:=cx) (cy:=.slice (some ⟨b,0,none⟩) 1 cap) (t:=t) (u:=t) (us:=us) (λ hh=>?_) JZ hz yf f2 f3 f6 h0 (y:=.gW y1 y2 y3 y4) (ys:=[]) (λ zc yg=>?_) (λ e he=>?_) k2 k3 (by simpa using hul) kx hc.1.1.1 hc.1.1.2 hc.1.2 hc.2
   .rw [hx];simp only [builtin,GK,aba,hh,aaJ,ab6]
   .refine ⟨λ hn=>absurd hn (by simp),λ hh h63 h48=>run_append_nil (P:=E.P) w t o.type e' ie zc e2 f1 yg _ _ cap us (by rw [hul,f2]) Dw hh h63 h48,λ _ b iG nw M1 FX hol hg h63 h48=>run_append_grow (P:=E.P) w t o.type e' ie zc e2 f1 yg b iG nw M1 FX hol _ _ cap us (by rw [hul,f2]) Dw hg h63 h48,λ _ g k iG nw cur hg gQ Dv=>rL (P:=E.P) w t o.type e' ie e2 f1 g k iG nw cur hg _ _ cap us (by rw [hul,f2]) Dw k3 gQ Dv⟩
   .rcases afF.1 he with rfl|he
    .exact ⟨rfl,rfl⟩
    .cases he
  .cases ha
 .cases ha
def xr:List AV->Bool
 |[]=>true
 |.list .nil _ []::l=>xr l
 |_::_=>false
def GM {g:Nat->AV} (hg:∀ j,(g j).cells=[g j]) (hR:∀ j sz c,Rel R w (.list .nil sz []) c->Rel R w (g j) c):∀ {es:List AV} {vs:List Value} (k:Nat),xr es=true->bj R w (aH es) vs->bj R w (aH ((List.range' k es.length).map g)) vs
 |[],_,_,_,h=>h
 |e::es,vs,k,hn,h=>by
  unfold xr at hn;split at hn
  .rename_i h0; cases h0
  .rename_i sz l h0;cases h0;simp only [aH,AV.cells,afB] at h;cases h with
   |cons h1 h2=>
   simp only [aca,List.range'_succ,List.map_cons,aH,hg,afB];exact .cons (hR k _ _ h1) (GM hg hR (k+1) hn h2)
  .cases hn
def bG.aeg (h:bG E R w β s a) {id:Nat} {es:List AV} {el:TypeId} (cG:nth s.G id=some (.bO es 1 el)) (hn:xr es=true) {g:Nat->AV} (hg:∀ j,(g j).cells=[g j]) (ht:∀ j,(g j).bN=true) (hR:∀ j sz c,Rel R w (.list .nil sz []) c->Rel R w (g j) c) :
  bG E R w β (s.cM (aC s.G id (.bO ((List.range es.length).map g) 1 el))) a/\Step R w β s.boxes R w β s.boxes:=by
 refine ⟨⟨⟨by simp [St.cM,h.g.len],λ i go r h1 h2=>?_,h.g.inj,h.g.wf,h.g.fU,h.g.lo⟩,h.b,h.t,h.n,h.d⟩,Step.refl _ _ _ _⟩;rcases df h1 with ⟨rfl,rfl,_⟩|⟨_,h1⟩
 .have cV:=h.g.obj id _ _ cG h2;have hlen:((List.range es.length).map g).length=es.length:=by simp
  cases r with
  |none=>exact cV.elim
  |cN _=>exact cV.elim
  |bC _=>exact cV.elim
  |bK=>
   have he:es=[]:=cV;subst he;exact rfl
  |tok f b c k=>
   obtain ⟨q1,q2,q3,cur,vs,q4,q5,q6,q7,q8,q9,q10,q11⟩:=cV;refine ⟨q1,by rw [hlen]; exact q2,λ e he=>?_,cur,vs,q4,q5,q6,q7,q8,?_,q10,q11⟩
   .obtain ⟨j,_,rfl⟩:=List.mem_map.1 he;exact ⟨by rw [hg]; rfl,ht j⟩
   .rw [List.range_eq_range'];exact GM hg hR 0 hn q9
 .exact h.g.obj i go r h1 h2
end
end Go.Am
