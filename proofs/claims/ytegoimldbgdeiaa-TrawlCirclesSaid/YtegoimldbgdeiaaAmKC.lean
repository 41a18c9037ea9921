/- The abstract machine: what it does is what the model does: slices that are built and cut. -/
import Derived.Test.YtegoimldbgdeiaaAmKB
import Derived.IntWalk
set_option linter.all false
open Array renaming range→abd, ext'→acH
open Bool renaming and_eq_true→aaP
open Go.Builtin renaming len_→aaA, min2→acK
open Go.Instr renaming sliceAt→aaK, slice→aaT, buildSlice→aa0, sliceBound→acI, makeSlice→acM
open Go.Op renaming bytesLess→acS
open Go.Result renaming andThen_ok→aae
open Go.Sem renaming run_bind→aal, run_pure→aas
open List renaming replicate→aav, length_nil→aax, length_append→acz, getElem?_take→acC, getElem?_append_left→acG, foldlM_cons→acJ, getElem?_eq_none→acN, mem_of_mem_take→acP, replicate_succ→acQ
open Nat renaming le_refl→aat, eq_of_beq_eq_true→aay, le_of_ble_eq_true→aaM, le_zero_eq→aa3, mul_le_mul_right→aa6, le_succ_of_le→abQ, succ_mul→ab9, add_mul→acv, mul_eq_zero→acL, zero_mul→acR
open Ne renaming symm→acO
open Option renaming map_none→aau, map_some→acg
namespace Go.Am
open Go
theorem dZ (l r:List AV):aC (l++r)=aC l++aC r:=by
 induction l with
 |nil=>rfl
 |cons e l ih=>simp [aC,ih]
theorem eQ {sz:Nat} {es:List AV} (h:ly sz es):(aC es).length=es.length * sz:=by
 induction es with
 |nil=>simp [aC]
 |cons e es ih=>
  have h1:=(h e (by simp)).1;have:=ih (fun x hx=>h x (by simp [hx]));simp only [aC,acz,this,h1,List.length_cons,acv];omega
section rel
variable {R:aj} {w:World}
theorem og {b sz:Nat}:∀ {es:List AV} {o:Nat},ly sz es→gz R w b o (aC es)→jO R w b o sz es
 |[],_,_,_=>.nil
 |e :: es,o,h,hc=>by
  obtain ⟨h1,h2,h3⟩:=h e (by simp);obtain ⟨vs,k1,k2,k3,k4⟩:=hc.get;have hd:=hc.drop sz;have adx:(aC (e :: es)).drop sz=aC es:=by simp only [aC]; rw [← h1,List.drop_left]
  have QO:(aC (e :: es)).take sz=e.cells:=by simp only [aC]; rw [← h1,List.take_left]
  rw [adx] at hd;refine .cons h1 h2 h3 ?_ (og (fun x hx=>h x (by simp [hx])) hd);have kt:=k1.take sz;rw [QO] at kt;refine .make kt (fun v hv=>k2 v (acP hv)) (fun j v hv=>k3 j v ?_) (fun j hj=>k4 j ?_)
  ·rw [acC] at hv;split at hv
   ·exact hv
   ·cases hv
  ·simp only [aC,acz];omega
theorem Cj {b sz:Nat}:∀ {es:List AV} {o:Nat},jO R w b o sz es→ly sz es∧∃ vs,aW R w (aC es) vs∧(∀ v∈vs,v.oneCell'=true)∧(∀ j v,vs[j]?=some v→w.cell? ⟨b,o+j,none⟩=some v)∧∀ j,j < es.length * sz→R.I b (o+j)
 |[],o,_=>⟨fun e he=>by simp at he,[],.nil,by simp,by simp,by simp⟩
 |e :: es,o,h=>by
  cases h with
  |cons hl ht hk hc t=>
   obtain ⟨g0,vs,g1,g2,g3,g4⟩:=Cj t;obtain ⟨us,f1,f2,f3,f4⟩:=hc.get;have hlen:us.length=sz:=by rw [← f1.length,hl]
   refine ⟨fun x hx=>?_,us++vs,f1.append g1,fun v hv=>?_,fun j v hv=>?_,fun j hj=>?_⟩
   ·rcases List.mem_cons.1 hx with rfl|hx
    ·exact ⟨hl,ht,hk⟩
    ·exact g0 x hx
   ·rcases List.mem_append.1 hv with hv|hv
    ·exact f2 v hv
    ·exact g2 v hv
   ·by_cases hj:j < sz
    ·rw [acG (by omega)] at hv;exact f3 j v hv
    ·rw [List.getElem?_append_right (by omega),hlen] at hv;have:=g3 _ v hv;rwa [show o+sz+(j - sz)=o+j by omega] at this
   ·by_cases YQ:j < sz
    ·exact f4 j (by omega)
    ·have:=g4 (j - sz) (by simp only [List.length_cons,acv] at hj; omega);rwa [show o+sz+(j - sz)=o+j by omega] at this
theorem zo {b sz:Nat}:∀ (n:Nat) {es:List AV} {o:Nat},jO R w b o sz es→jO R w b (o+n * sz) sz (es.drop n)
 |0,es,o,h=>by simpa using h
 |n+1,[],o,h=>by simpa using jO.nil
 |n+1,e :: es,o,h=>by
  cases h with
  |cons hl ht hk hc t=>
   have:=zo n t;rw [show o+sz+n * sz=o+(n+1) * sz by rw [acv]; omega] at this;simpa using this
theorem zp {b sz:Nat}:∀ (n:Nat) {es:List AV} {o:Nat},jO R w b o sz es→jO R w b o sz (es.take n)
 |0,es,o,h=>by simpa using jO.nil
 |n+1,[],o,h=>by simpa using jO.nil
 |n+1,e :: es,o,h=>by
  cases h with
  |cons hl ht hk hc t=>simpa using jO.cons hl ht hk hc (zp n t)
end rel
theorem fL {sz n:Nat} {z:AV} (h1:z.cells.length=sz) (h2:z.ba=true) (h3:z.closed=true):ly sz (aav n z):=fun e he=>by
 rw [List.mem_replicate] at he;rw [he.2];exact ⟨h1,h2,h3⟩
theorem Ck {sz:Nat}:∀ {es:List AV} {i:Nat} {v:AV},ly sz es→i < es.length→v.cells.length=sz→aC (aE es i v)=eT (aC es) (i * sz) v.cells
 |[],i,v,_,h,_=>by simp at h
 |e :: es,0,v,h,_,hv=>by
  have h1:=(h e (by simp)).1;simp only [aE,aC,acR];rw [iE _ 0 _ (by simp; omega)];simp only [List.take_zero,List.nil_append,Nat.zero_add];rw [hv,← h1,List.drop_left]
 |e :: es,i+1,v,h,hi,hv=>by
  have h1:=(h e (by simp)).1;have HR:ly sz es:=fun x hx=>h x (by simp [hx])
  have ih:=Ck (i:=i) (v:=v) HR (by simpa using hi) hv;have cI:i < es.length:=by simpa using hi
  have hle:i * sz+sz≤es.length * sz:=by rw [← ab9]; exact aa6 _ cI
  have hl:=eQ HR;simp only [aE,aC];have e1:(i+1) * sz=e.cells.length+i * sz:=by rw [h1,ab9]; omega
  have e2:List.take (e.cells.length+i * sz) e.cells=e.cells:=List.take_of_length_le (by omega);rw [ih,iE _ _ _ (by omega),e1,iE _ _ _ (by simp only [acz]; omega)];rw [List.take_append,e2,Nat.add_assoc,List.drop_append,List.drop_of_length_le (by omega:e.cells.length≤e.cells.length+(i * sz+v.cells.length))];simp [Nat.add_sub_cancel_left]
theorem OK {sz:Nat} {es:List AV} {i:Nat} {v:AV} (h:ly sz es) (h1:v.cells.length=sz) (h2:v.ba=true) (h3:v.closed=true):ly sz (aE es i v):=fun e he=>by
 rw [fh] at he;rcases List.mem_or_eq_of_mem_set he with he|rfl
 ·exact h e he
 ·exact ⟨h1,h2,h3⟩
theorem Al {sz:Nat}:∀ {ps:List (Nat × AV)} {es es':List AV},H0 sz es ps=some es'→ly sz es →
  Ag (fun i=>some (i * sz,sz)) (aC es) ps=some (aC es')∧ly sz es'∧es'.length=es.length
 |[],es,es',h,hk=>by simp [H0] at h; subst h; exact ⟨rfl,hk,rfl⟩
 |(i,v) :: ps,es,es',h,hk=>by
  unfold H0 at h;split at h
  ·rename_i hc;simp only [aaP] at hc;obtain ⟨⟨⟨hn,hl⟩,hi⟩,TZ⟩:=hc;have hl':=aay hl;have tj:=aaM hi;obtain ⟨g1,g2,g3⟩:=Al h (OK hk hl' hn TZ);refine ⟨?_,g2,by simpa using g3⟩;unfold Ag;have hle:Nat.ble (i * sz+sz) (aC es).length=true:=by
    apply Nat.ble_eq_true_of_le;rw [eQ hk,← ab9];exact aa6 _ tj
   simp only [hn,hl,hle,Bool.and_self,if_true];rw [← Ck hk (by omega) hl'];exact g1
  ·cases h
section ops
variable {E:Env} {R:aj} {w:World} {β:Nat→Nat} {s:St} {a:Act} {o:Oper}
def aj.imm (R:aj) (b:Nat):aj:=⟨fun b' o=>R.I b' o∨b'=b,R.obj⟩
theorem GF (wf:∀ b o,R.I b o→b < w.heap.size) (x:Obj):Ext R w (R.imm w.heap.size) (w.alloc x):=
 ⟨fun _ _ h=>.inl h,fun b o h=>cH (heap_alloc_old w x b (wf b o h)) o,fun _ ro h=>⟨ro,h,di.refl ro⟩,.old fun b hb=>heap_alloc_old w x b hb⟩
theorem bk.imm (h:bk E R w β s a) (x:Obj):bk E (R.imm w.heap.size) (w.alloc x) β s a:=
 h.bh (GF h.g.wf x) rfl (fun b hb=>heap_alloc_old w x b (h.fD hb)) (fun b o hb hi=>by
  rcases hi with hi|hi
  ·exact hi
  ·have:=h.fD hb;omega) (fun b o hi=>by
  rcases hi with hi|hi
  ·have:=h.g.wf b o hi;simp;omega
  ·simp;omega)
theorem QP (h:bk E R w β s a) (x:Obj):Step R w β s.boxes (R.imm w.heap.size) (w.alloc x) β s.boxes:=
 ⟨GF h.g.wf x,rfl,rfl,rfl,by simp,fun b hb _=>heap_alloc_old w x b hb,fun _ _ ho=>ho,fun b o hi hb _=>by
  rcases hi with hi|hi
  ·exact hi
  ·omega⟩
theorem tL (z:Array Value):∀ (n:Nat),(((abd (n * z.size)).map fun i=>z[i % z.size]!)).toList=(aav n z.toList).flatten
 |0=>by simp
 |n+1=>by
  have ih:=tL z n;simp only [Array.toList_map,Array.toList_range] at ih ⊢;rw [acv,Nat.one_mul,List.range_add,List.map_append,ih,List.replicate_succ',List.flatten_append];congr 1;simp only [List.map_map,List.flatten_cons,List.flatten_nil,List.append_nil];apply List.ext_getElem?;intro i;by_cases hi:i < z.size
  ·simp only [List.getElem?_map,List.getElem?_range hi,acg,Function.comp_apply];rw [Nat.mul_comm n,Nat.mul_add_mod,Nat.mod_eq_of_lt hi];simp [hi]
  ·rw [acN (by simp; omega),acN (by simp; omega)]
theorem qU {z:AV} {c:Value} (hr:Rel R w z c) (hn:z.ba=true):∀ (n:Nat),aW R w (aC (aav n z)) (aav n c.cells.toList).flatten∧∀ v∈(aav n c.cells.toList).flatten,v.oneCell'=true
 |0=>by simp [aC]; exact .nil
 |n+1=>by
  obtain ⟨c1,c2⟩:=Rel.cells hr hn;obtain ⟨h1,h2⟩:=qU hr hn n;refine ⟨?_,fun v hv=>?_⟩
  ·simpa [acQ,aC] using c1.append h1
  ·simp only [acQ,List.flatten_cons,List.mem_append] at hv;rcases hv with hv|hv
   ·exact c2 v hv
   ·exact h2 v hv
theorem zq:∀ {ps:List (Nat × AV)} {us:List Value},aW R w (ps.map (·.2)) us→aW R w ((E8 ps).map (·.2)) us
 |[],_,h=>h
 |(_,_) :: _,_,.cons h t=>.cons h.jM (zq t)
theorem zr:∀ (ps:List (Nat × AV)),(E8 ps).map (·.1)=ps.map (·.1)
 |[]=>rfl
 |(i,v) :: l=>by simp [E8,zr l]
theorem kU (h:bk E R w β s a) (t:TypeId) (len:Nat) (parts:Array (Nat × Operand)) (ho:o.op=.buildSlice t len parts) {v:AV} (hv:cV E s t len parts.toList=some v) :
  ∃ es esz us elem,v=.list .full esz es∧(execOp a.eval o).run E.P w=.ok (.value (.slice (some ⟨w.heap.size,0,none⟩) len len)) (w.alloc (.cells ⟨us⟩ elem))∧ly esz es∧es.length=len∧aW R w (aC es) us∧(∀ x∈us,x.oneCell'=true)∧∃ i ag r7 z,E.ti t=some i∧i.k=.sl elem esz ag r7 z:=by
 unfold cV at hv;split at hv
 ·rename_i i ps hi Qk;split at hv
  ·rename_i elem esz ag r7 z hk;split at hv
   ·rename_i hc;simp only [aaP] at hc;obtain ⟨⟨⟨⟨KN,hz2⟩,hz3⟩,hz4⟩,hz5⟩:=hc;have KN:=aay KN;have hz2:=aaM hz2;have hz3:=aaM hz3;split at hv
    ·rename_i es HR;cases hv;obtain ⟨jR,u,e1,e2,e3,e4,e5,e6⟩:=dC E hi;rw [hk] at e5;obtain ⟨ie,ue,rfl,f1,f2,f3,f4,f5,f6⟩:=fP e5;obtain ⟨zc,tk,Ki⟩:=eP f6;have Xk:=Ki R w;obtain ⟨c1,c2⟩:=Rel.cells Xk hz4;have xw:zc.cells.size=esz:=by rw [← KN,c1.length]; simp
     obtain ⟨p1,p2⟩:=BC h Qk;obtain ⟨z1,z2⟩:=qU Xk hz4 len;obtain ⟨g1,g2,g3⟩:=Al HR (fL KN hz4 hz5);obtain ⟨us,u1,u2,u3⟩:=tK (R:=R) (w:=w) _ (zq p1) ((zr ps).trans p2) z1 z2 g1;have YP:(parts.map fun (x:Nat × Operand)=>(x.1,a.eval x.2)).toList=parts.toList.map fun x=>(x.1,a.eval x.2):=by simp
     have Cl:((abd (len * esz)).map fun i=>zc.cells[i % zc.cells.size]!)=⟨(aav len zc.cells.toList).flatten⟩:=by
      apply acH;rw [← xw];exact tL zc.cells len
     have hlen:es.length=len:=by simpa using g3
     have cq:(aa0 t len (parts.map fun (x:Nat × Operand)=>(x.1,a.eval x.2))).run E.P w=.ok (.slice (some ⟨w.heap.size,0,none⟩) len len) (w.alloc (.cells ⟨us⟩ elem)):=by
      have TY:¬ len * esz > 2 ^ 24:=by omega
      by_cases h0:len * esz=0
      ·have A3:len=0:=by
        rcases acL.1 h0 with h0|h0 <;> omega
       subst A3;have u1':Instr.fill (fun i=>some (i * esz,esz)) #[] (parts.toList.map fun x=>(x.1,a.eval x.2))=some ⟨us⟩:=by simpa using u1
       simp only [aa0,aal,run_underlying e2,aae,run_sizeOf w f1,f2];simp only [acR,gt_iff_lt,Nat.not_lt_zero,if_false,if_true,aal,aas,aae,YP];have Ib:∀ f:Nat→Value,Array.map f (abd 0)=#[]:=fun f=>by simp
       simp only [Ib,u1',newRow,aal,run_newObj,aae,aas];rfl
      ·simp only [aa0,aal,run_underlying e2,aae,run_sizeOf w f1,f2];rw [if_neg TY,if_neg h0];simp only [aal,aas,aae,jS w f1 tk,YP,Cl,u1,newRow,run_newObj];rfl
     exact ⟨es,esz,us,elem,rfl,by simp only [execOp,ho,aal,cq,aae,aas],g2,hlen,u2,u3,i,ag,r7,_,hi,hk⟩
    ·cases hv
   ·cases hv
  ·cases hv
 ·cases hv
theorem A4 (h:bk E R w β s a) (t:TypeId) (len:Nat) (parts:Array (Nat × Operand)) (ho:o.op=.buildSlice t len parts) {cs:List AV} (hv:nO E s t len parts.toList=some cs) :
  ∃ esz us elem,(execOp a.eval o).run E.P w=.ok (.value (.slice (some ⟨w.heap.size,0,none⟩) len len)) (w.alloc (.cells ⟨us⟩ elem))∧aW R w cs us∧(∀ x∈us,x.oneCell'=true)∧∃ i ag r7 z,E.ti t=some i∧i.k=.sl elem esz ag r7 z:=by
 unfold nO at hv;split at hv
 ·rename_i i ps hi Qk;split at hv
  ·rename_i elem esz ag r7 z hk;split at hv
   ·rename_i hc;simp only [aaP] at hc;obtain ⟨⟨⟨KN,hz2⟩,hz3⟩,hz4⟩:=hc;have KN:=aay KN;have hz2:=aaM hz2;have hz3:=aaM hz3
    ·have g1:=hv;obtain ⟨jR,u,e1,e2,e3,e4,e5,e6⟩:=dC E hi;rw [hk] at e5;obtain ⟨ie,ue,rfl,f1,f2,f3,f4,f5,f6⟩:=fP e5;obtain ⟨zc,tk,Ki⟩:=eP f6;have Xk:=Ki R w;obtain ⟨c1,c2⟩:=Rel.cells Xk hz4;have xw:zc.cells.size=esz:=by rw [← KN,c1.length]; simp
     obtain ⟨p1,p2⟩:=BC h Qk;obtain ⟨z1,z2⟩:=qU Xk hz4 len;obtain ⟨us,u1,u2,u3⟩:=tK (R:=R) (w:=w) _ (zq p1) ((zr ps).trans p2) z1 z2 g1;have YP:(parts.map fun (x:Nat × Operand)=>(x.1,a.eval x.2)).toList=parts.toList.map fun x=>(x.1,a.eval x.2):=by simp
     have Cl:((abd (len * esz)).map fun i=>zc.cells[i % zc.cells.size]!)=⟨(aav len zc.cells.toList).flatten⟩:=by
      apply acH;rw [← xw];exact tL zc.cells len
     have cq:(aa0 t len (parts.map fun (x:Nat × Operand)=>(x.1,a.eval x.2))).run E.P w=.ok (.slice (some ⟨w.heap.size,0,none⟩) len len) (w.alloc (.cells ⟨us⟩ elem)):=by
      have TY:¬ len * esz > 2 ^ 24:=by omega
      by_cases h0:len * esz=0
      ·have A3:len=0:=by
        rcases acL.1 h0 with h0|h0 <;> omega
       subst A3;have u1':Instr.fill (fun i=>some (i * esz,esz)) #[] (parts.toList.map fun x=>(x.1,a.eval x.2))=some ⟨us⟩:=by simpa using u1
       simp only [aa0,aal,run_underlying e2,aae,run_sizeOf w f1,f2];simp only [acR,gt_iff_lt,Nat.not_lt_zero,if_false,if_true,aal,aas,aae,YP];have Ib:∀ f:Nat→Value,Array.map f (abd 0)=#[]:=fun f=>by simp
       simp only [Ib,u1',newRow,aal,run_newObj,aae,aas];rfl
      ·simp only [aa0,aal,run_underlying e2,aae,run_sizeOf w f1,f2];rw [if_neg TY,if_neg h0];simp only [aal,aas,aae,jS w f1 tk,YP,Cl,u1,newRow,run_newObj];rfl
     exact ⟨esz,us,elem,by simp only [execOp,ho,aal,cq,aae,aas],u2,u3,i,ag,r7,_,hi,hk⟩
   ·cases hv
  ·cases hv
 ·cases hv
theorem A5 (h:bk E R w β s a) (t:TypeId) (len:Nat) (parts:Array (Nat × Operand)) (ho:o.op=.buildSlice t len parts) {v:AV} (hv:cV E s t len parts.toList=some v) :
  cn E R w β s a o (s.put o.dst (.v v)):=by
 obtain ⟨es,esz,us,elem,rfl,cq,g2,hlen,u2,u3,_⟩:=kU h t len parts ho hv;have e:=GF (R:=R) (w:=w) h.g.wf (.cells ⟨us⟩ elem);refine ⟨_,.slice (some ⟨w.heap.size,0,none⟩) len len,_,R.imm w.heap.size,β,cq,.inl rfl,(h.imm (.cells ⟨us⟩ elem)).put o.dst ?_,by rw [bo]; exact QP h _⟩;refine Rel.list (og g2 (gz.make (u2.mono e) u3 (fun j x hx=>?_) (fun j _=>.inr rfl))) hlen.symm (aat _) rfl;rw [qR (heap_alloc_new w _)];simpa using hx
theorem zt (h:bk E R w β s a) (t:TypeId) (len:Nat) (parts:Array (Nat × Operand)) (ho:o.op=.buildSlice t len parts) {cs:List AV} (hv:nO E s t len parts.toList=some cs) {i:TI} (hi:E.ti t=some i) {el:TypeId} {esz eb:Nat} {ag:Bool} {z:Option AV} (hk:i.k=.sl el esz ag eb z) :
  cn E R w β s a o ((s.fq (.row cs el)).put o.dst (.v (.oA s.G.length 0 esz len len))):=by
 obtain ⟨YR,us,elem,cq,u2,u3,i',ag',by',z',tj,kT⟩:=A4 h t len parts ho hv;rw [hi] at tj;cases tj;rw [hk] at kT;cases kT;have e:=jx (R:=R) (w:=w) h.g.wf (.cells ⟨us⟩ el) (.cu w.heap.size);have jQ:jw (R.add (.cu w.heap.size)) (w.alloc (.cells ⟨us⟩ el)) (.row cs el) (.cu w.heap.size):=
  ⟨_,heap_alloc_new w _,u2.mono e,u3,fun o' hi=>by have:=h.g.wf _ _ hi; omega⟩
 exact ⟨_,_,_,R.add (.cu w.heap.size),β,cq,.inl rfl,(h.oE _ _ _ (by exact fun _ h=>h) jQ).put o.dst (x:=.v (.oA s.G.length 0 esz len len)) (Rel.oA (iW h _) (aat _)),by rw [bo]; exact dP h _ _ (by exact fun _ h=>h)⟩
theorem zu (h:bk E R w β s a) (t:TypeId) (len:Nat) (parts:Array (Nat × Operand)) (ho:o.op=.buildSlice t len parts) {k:LK} {esz:Nat} {es:List AV} (hv:cV E s t len parts.toList=some (.list k esz es)) {i:TI} (hi:E.ti t=some i) {el:TypeId} {cL eb:Nat} {ag:Bool} {z:Option AV} (hk:i.k=.sl el cL ag eb z) :
  cn E R w β s a o ((s.fq (.row (aC es) el)).put o.dst (.v (.oA s.G.length 0 esz len len))):=by
 obtain ⟨es',YR,us,elem,hve,cq,g2,hlen,u2,u3,i',ag',by',z',tj,kT⟩:=kU h t len parts ho hv;cases hve;rw [hi] at tj;cases tj;rw [hk] at kT;cases kT;have e:=jx (R:=R) (w:=w) h.g.wf (.cells ⟨us⟩ el) (.cu w.heap.size);have jQ:jw (R.add (.cu w.heap.size)) (w.alloc (.cells ⟨us⟩ el)) (.row (aC es) el) (.cu w.heap.size):=
  ⟨_,heap_alloc_new w _,u2.mono e,u3,fun o' hi=>by have:=h.g.wf _ _ hi; omega⟩
 exact ⟨_,_,_,R.add (.cu w.heap.size),β,cq,.inl rfl,(h.oE _ _ _ (by exact fun _ h=>h) jQ).put o.dst (x:=.v (.oA s.G.length 0 esz len len)) (Rel.oA (iW h _) (aat _)),by rw [bo]; exact dP h _ _ (by exact fun _ h=>h)⟩
end ops
end Go.Am
namespace Go.Am
open Go
section ops
variable {E:Env} {R:aj} {w:World} {β:Nat→Nat} {s:St} {a:Act} {o:Oper}
def YS (R:aj) (w:World) (β:Nat→Nat):Option SV→Option Value→Prop
 |none,none=>True
 |some x,some c=>tD R w β x c
 |_,_=>False
theorem Fk {y y' n:Nat} {x:SV} {c:Value} (hx:tD R w β x c) (hb:B9 y x=some (true,n)) (hy:y≤y') (code:BoundsCode) :
  (acI c y' code).run E.P w=.ok n w∧n≤y:=by
 unfold B9 at hb;split at hb
 ·rename_i k m;injection hb with hb;injection hb with h1 h2;subst h2;obtain ⟨h0,h3⟩:=of_decide_eq_true h1;have vH:Rel R w (.int k m) c:=hx;cases vH;exact ⟨run_sliceBound (P:=E.P) w k m y' code h0 (by omega),by omega⟩
 ·cases hb
theorem ft (isS:Bool) {len cap l h:Nat} (Ia:len≤cap) {lo hi:Option SV} {lv hv:Option Value} (hl:YS R w β lo lv) (hh:YS R w β hi hv) (hb:Gv len lo hi=some (true,l,h)) :
  (Instr.sliceBounds isS len cap lv hv none).run E.P w=.ok (l,h,cap) w∧l≤h∧h≤len:=by
 unfold Gv at hb;split at hb
 ·cases hb
 ·rename_i c1 h' mm;split at hb
  ·cases hb
  ·rename_i c2 l' YT;injection hb with hb;injection hb with hc hb;injection hb with e1 e2;subst e1; subst e2;simp only [aaP] at hc;obtain ⟨rfl,rfl⟩:=hc;have H:∃ _:True,(match hv with | some v=>acI v cap (if isS=true then .sliceAcap else .sliceAlen) | none=>pure len).run E.P w=.ok h' w∧h'≤len:=by
    refine ⟨trivial,?_⟩;cases hi with
    |none=>cases hv with
     |none=>simp at mm; subst mm; exact ⟨rfl,aat _⟩
     |some v=>exact hh.elim
    |some x=>cases hv with
     |none=>exact hh.elim
     |some v=>exact Fk (E:=E) hh mm Ia _
   have L:∃ _:True,(match lv with | some v=>acI v h' .sliceB | none=>pure 0).run E.P w=.ok l' w∧l'≤h':=by
    refine ⟨trivial,?_⟩;cases lo with
    |none=>cases lv with
     |none=>simp at YT; subst YT; exact ⟨rfl,Nat.zero_le _⟩
     |some v=>exact hl.elim
    |some x=>cases lv with
     |none=>exact hl.elim
     |some v=>exact Fk (E:=E) hl YT (aat _) _
   obtain ⟨_,H1,H2⟩:=H;obtain ⟨_,L1,L2⟩:=L;refine ⟨?_,L2,H2⟩;cases hv <;> cases lv <;> simp_all [Instr.sliceBounds]
theorem xx (h:bk E R w β s a) {x:Option Operand} {y:Option SV} (hx:pO E s.af x=some y):YS R w β y (x.map a.eval):=by
 cases x with
 |none=>simp [pO] at hx; subst hx; trivial
 |some x=>simp [pO] at hx; subst hx; exact aY h x
theorem tM {α:Type} {l:List α} {lo hi:Nat} (h:hi≤l.length):(qn lo hi l).length=hi - lo:=by
 simp [qn];omega
theorem EG (l:List UInt8) (lo hi:Nat):(⟨⟨l⟩⟩:ByteArray).extract lo hi=⟨⟨qn lo hi l⟩⟩:=by
 apply ByteArray.ext;rw [ByteArray.data_extract];apply acH;simp [List.extract_eq_take_drop,qn,List.drop_take]
theorem MN {ag:Bool} {b sz:Nat} (gX:(ag || Nat.beq sz 1)=true):∀ (n:Nat) {cs:List AV} {o:Nat},gz R w b o cs→n * sz≤cs.length→allFit (Kx ag) (kh ag sz n cs)=true→jO R w b o sz (kh ag sz n cs)
 |0,_,_,_,_,_=>.nil
 |n+1,cs,o,hc,hl,hf=>by
  simp only [kh,allFit,aaP] at hf;obtain ⟨A6,hf2⟩:=hf;unfold Kx at A6;simp only [aaP] at A6;obtain ⟨⟨h1,h2⟩,h3⟩:=A6;have hle:sz≤cs.length:=by rw [ab9] at hl; omega
  have qx:(mkD ag (cs.take sz)).cells=cs.take sz:=by
   cases ag with
   |true=>rfl
   |false=>
    have TW:sz=1:=by simpa using gX
    subst TW
    match cs,hle with
    |a :: cs,_=>
     show AV.cells a=[a];have ho:a.one=true:=by simpa [mkD,fU] using h2
     cases a <;> first | rfl | simp [AV.one] at ho
  obtain ⟨vs,k1,k2,k3,k4⟩:=hc.get;have hA:gz R w b o (cs.take sz):=gz.make (k1.take sz) (fun v hv=>k2 v (acP hv)) (fun j v hv=>k3 j v (by
   rw [acC] at hv;split at hv
   ·exact hv
   ·cases hv)) (fun j hj=>k4 j (by rw [List.length_take] at hj; omega))
  exact .cons (by rw [qx,List.length_take,Nat.min_eq_left hle]) h1 h3 (by rw [qx]; exact hA) (MN gX n (hc.drop sz) (by rw [List.length_drop]; rw [ab9] at hl; omega) hf2)
theorem vI (ag:Bool) (sz:Nat):∀ (n:Nat) (cs:List AV),(kh ag sz n cs).length=n
 |0,_=>rfl
 |n+1,cs=>by simp [kh,vI ag sz n]
theorem KO (h:bk E R w β s a) (t:TypeId) (x:Operand) (lo hi:Option Operand) (ho:o.op=.slice t x lo hi none) {l h':Option SV} (hl:pO E s.af lo=some l) (hh:pO E s.af hi=some h') {v:AV} (hv:Gw E t (bJ E s.af x) l h' none=some (true,v)) :
  cn E R w β s a o (s.put o.dst (.v v)):=by
 have rx:=aY h x;have rl:=xx h hl;have rh:=xx h hh;unfold Gw at hv;split at hv
 ·rename_i i tj hmx;obtain ⟨jR,u,e1,e2,e3,e4,e5,e6⟩:=dC E tj;split at hv
  ·-- a string
   rename_i bs hk hx;rw [hx] at rx;have fy:Rel R w (.str bs) (a.eval x):=rx;generalize iX:a.eval x=xv at fy;cases fy;rw [hk] at e5;have:=tJ e5;subst this;split at hv
   ·rename_i c p q hb;injection hv with hv;injection hv with h1 h2;subst h1; subst h2;obtain ⟨k1,k2,k3⟩:=ft (E:=E) false (aat _) rl rh hb;refine ax h (c:=.string ⟨⟨qn p q bs⟩⟩) ?_ (Rel.str _);rw [← EG];simp only [execOp,ho,aaK,aal,run_underlying e2,aae,aaT,iX,aau,Option.isSome_none,Bool.false_eq_true,if_false,size_bytes,k1,aas]
   ·cases hv
  ·-- a list
   rename_i elem esz ag r7 z k sz es hk hx;rw [hx] at rx;rw [hk] at e5;obtain ⟨ie,ue,rfl,f1,f2,f3,f4,f5,f6⟩:=fP e5;split at hv
   ·rename_i gX;split at hv
    ·rename_i c p q hb;injection hv with hv;injection hv with h1 h2;subst h1; subst h2;have fy:Rel R w (.list k sz es) (a.eval x):=rx;generalize iX:a.eval x=xv at fy;cases fy with
     |lF=>
      obtain ⟨k1,k2,k3⟩:=ft (E:=E) true (aat _) rl rh hb;simp only [aax,aa3] at k3;subst k3;have:p=0:=by omega
      subst this;refine ax h (c:=.slice none 0 0) ?_ ?_
      ·simp only [execOp,ho,aaK,aal,run_underlying e2,aae,aaT,iX,aau];simp only [aax] at k1;simp [k1,run_sizeOf w f1]
      ·exact Rel.lF
     |kS=>
      obtain ⟨k1,k2,k3⟩:=ft (E:=E) true (aat _) rl rh hb;simp only [aax,aa3] at k3;subst k3;have:p=0:=by omega
      subst this;refine ax h (c:=.slice none 0 0) ?_ ?_
      ·simp only [execOp,ho,aaK,aal,run_underlying e2,aae,aaT,iX,aau];simp only [aax] at k1;simp [k1,run_sizeOf w f1]
      ·exact Rel.kS
     | @qt _ ad=>
      obtain ⟨k1,k2,k3⟩:=ft (E:=E) true (aat _) rl rh hb;simp only [aax,aa3] at k3;subst k3;have:p=0:=by omega
      subst this;refine ax h (c:=.slice (some ad) 0 0) ?_ ?_
      ·simp only [execOp,ho,aaK,aal,run_underlying e2,aae,aaT,iX,aau];simp only [aax] at k1;simp [k1,run_sizeOf w f1]
      ·exact Rel.qt
     |nP h0 h00=>
      obtain ⟨k1,k2,k3⟩:=ft (E:=E) true (aat _) rl rh hb;simp only [aax,aa3] at k3;subst k3;have:p=0:=by omega
      subst this;refine ax h (c:=.slice none 0 0) ?_ ?_
      ·simp only [execOp,ho,aaK,aal,run_underlying e2,aae,aaT,iX,aau];simp only [aax] at k1;simp [k1,run_sizeOf w f1]
      ·exact Rel.kS
     |pP h0 h00=>
      obtain ⟨k1,k2,k3⟩:=ft (E:=E) true (aat _) rl rh hb;simp only [aax,aa3] at k3;subst k3;have:p=0:=by omega
      subst this;refine ax h (c:=.slice none 0 0) ?_ ?_
      ·simp only [execOp,ho,aaK,aal,run_underlying e2,aae,aaT,iX,aau];simp only [aax] at k1;simp [k1,run_sizeOf w f1]
      ·exact Rel.kS
     | @list _ _ _ b o' len cap hr hlen jy OG=>
      subst hlen;obtain ⟨k1,k2,k3⟩:=ft (E:=E) true jy rl rh hb;have adB:es≠[]→sz=esz:=fun du=>by
       simp only [Bool.or_eq_true] at gX;rcases gX with hc|hc
       ·exact aay hc
       ·simp at hc; exact absurd hc du
      have cq:(execOp a.eval o).run E.P w=.ok (.value (.slice (if cap=p then some ⟨b,o',none⟩ else some ⟨b,o'+p * esz,none⟩) (q - p) (cap - p))) w:=by
       simp only [execOp,ho,aaK,aal,run_underlying e2,aae,aaT,iX,aau,k1,run_sizeOf w f1,f2,aas,acg,dI]
      have An:∀ b2 o2,Gy R (match k with | .nil=>LK.nil | .full=>(match h' with | none=>LK.full | some _=>LK.gZ) | _=>LK.gZ) b2 o2 (q - p) (cap - p):=by
       intro b2 o2;cases k with
       |nil=>exact OG.elim
       |gZ=>trivial
       |own id=>trivial
       |bt id j=>trivial
       |full=>
        have hc:cap=es.length:=OG;cases h' with
        |some _=>trivial
        |none=>
         have hq:q=es.length:=by
          unfold Gv at hb;simp only at hb;split at hb
          ·cases hb
          ·injection hb with hb;injection hb with _ hb;injection hb with _ hb;exact hb.symm
         show cap - p=q - p;omega
      by_cases UA:cap=p
      ·refine ax h (c:=.slice (some ⟨b,o',none⟩) (q - p) (cap - p)) (by rw [cq,if_pos UA]) ?_;have he:qn p q es=[]:=List.eq_nil_of_length_eq_zero (by rw [tM k3]; omega);exact Rel.list (by rw [he]; exact .nil) (by rw [tM k3]) (by omega) (An _ _)
      ·refine ax h (c:=.slice (some ⟨b,o'+p * esz,none⟩) (q - p) (cap - p)) (by rw [cq,if_neg UA]) ?_;refine Rel.list ?_ (by rw [tM k3]) (by omega) (An _ _);by_cases du:es=[]
       ·subst du;simp [qn];exact .nil
       ·have:=adB du;subst this;exact zo p (zp q hr)
    ·cases hv
   ·cases hv
  ·-- a heap slice
   rename_i elem esz ag r7 z id off sz len cap hk hx;rw [hx] at rx;rw [hk] at e5;obtain ⟨ie,ue,rfl,f1,f2,f3,f4,f5,f6⟩:=fP e5;split at hv
   ·rename_i gX;have gX:=aay gX;subst gX;split at hv
    ·rename_i c p q hb;injection hv with hv;injection hv with h1 h2;subst h1; subst h2;have fy:Rel R w (.oA id off sz len cap) (a.eval x):=rx;generalize iX:a.eval x=xv at fy;cases fy with
     | @oA _ _ _ _ _ b hbk jy=>
      obtain ⟨k1,k2,k3⟩:=ft (E:=E) true jy rl rh hb;refine ax h (c:=.slice (some ⟨b,bif Nat.beq cap p then off else off+p * sz,none⟩) (q - p) (cap - p)) ?_ (Rel.oA hbk (by omega));have hb:(bif Nat.beq cap p then off else off+p * sz)=if cap=p then off else off+p * sz:=by
       by_cases e:cap=p
       ·rw [if_pos e,e,show Nat.beq p p=true from Nat.beq_refl p]; rfl
       ·rw [if_neg e];cases hq:Nat.beq cap p with
        |true=>exact absurd (aay hq) e
        |false=>rfl
      rw [hb];simp only [execOp,ho,aaK,aal,run_underlying e2,aae,aaT,iX,aau,k1,run_sizeOf w f1,f2,aas,acg,dI];split <;> rfl
    ·cases hv
   ·cases hv
  ·-- a slice that grows
   rename_i elem esz ag r7 z id f' off sz len hk hx;rw [hx] at rx;rw [hk] at e5;obtain ⟨ie,ue,rfl,f1,f2,f3,f4,f5,f6⟩:=fP e5;split at hv
   ·rename_i gX;have gX:=aay gX;subst gX;split at hv
    ·rename_i c p q hb;injection hv with hv;injection hv with h1 h2;subst h1; subst h2;have fy:Rel R w (.eH id f' off sz len) (a.eval x):=rx;generalize iX:a.eval x=xv at fy;cases fy with
     |nh h0 h00=>
      obtain ⟨k1,k2,k3⟩:=ft (E:=E) true (aat _) rl rh hb;simp only [aa3] at k3;subst k3;have:p=0:=by omega
      subst this;refine ax h (c:=.slice none 0 0) ?_ ?_
      ·simp only [execOp,ho,aaK,aal,run_underlying e2,aae,aaT,iX,aau];simp [k1,run_sizeOf w f1]
      ·exact Rel.nh h0 h00
     | @eH _ _ _ _ _ cap b o' ro bD gJ jy=>
      obtain ⟨k1,k2,k3⟩:=ft (E:=E) true jy rl rh hb;have cq:(execOp a.eval o).run E.P w=.ok (.value (.slice (if cap=p then some ⟨b,o',none⟩ else some ⟨b,o'+p * sz,none⟩) (q - p) (cap - p))) w:=by
       simp only [execOp,ho,aaK,aal,run_underlying e2,aae,aaT,iX,aau,k1,run_sizeOf w f1,f2,aas,acg,dI]
      have hgs:∀ o2,(o2=o'+p * sz∨cap=p)→OA b o2 f' (off+p) sz (cap - p) ro:=fun o2 h2=>by
       cases ro with
       |none=>trivial
       |bL=>exact gJ.elim
       |cu _=>exact gJ.elim
       |bt _=>exact gJ.elim
       |tok f1 b1 c1=>
        refine ⟨gJ.1,fun e=>?_⟩;obtain ⟨q1,q2,q3⟩:=gJ.2 e;refine ⟨q1,by omega,?_⟩;rcases h2 with h2|h2
        ·rcases q3 with q3|q3
         ·exact .inl (by rw [h2,q3,acv])
         ·exact .inr (by omega)
        ·exact .inr (by omega)
      by_cases UA:cap=p
      ·exact ax h (c:=.slice (some ⟨b,o',none⟩) (q - p) (cap - p)) (by rw [cq,if_pos UA]) (Rel.eH bD (hgs _ (.inr UA)) (by omega))
      ·exact ax h (c:=.slice (some ⟨b,o'+p * sz,none⟩) (q - p) (cap - p)) (by rw [cq,if_neg UA]) (Rel.eH bD (hgs _ (.inl rfl)) (by omega))
    ·cases hv
   ·cases hv
  ·-- an array that never changes again
   rename_i len esz ag cs hk hx;rw [hx] at rx;rw [hk] at e5;obtain ⟨e,ie,ue,rfl,f1,f2,f3,f4⟩:=tH e5;split at hv
   ·split at hv
    ·rename_i dN;simp only [aaP] at dN;obtain ⟨⟨⟨c1,c2⟩,c3⟩,c4⟩:=dN;injection hv with hv;injection hv with _ h2;subst h2;have fy:Rel R w (.ep cs) (a.eval x):=rx;generalize iX:a.eval x=xv at fy;cases fy with
     | @ep _ b o' hr=>
     obtain ⟨k1,_,_⟩:=ft (E:=E) (w:=w) (R:=R) (β:=β) (l:=0) (h:=len) false (aat len) rl rh rfl;refine ax h (c:=.slice (some ⟨b,o',none⟩) len len) ?_ (Rel.list (MN c3 len hr (aaM c1) c4) (vI _ _ _ _).symm (aat _) rfl);simp only [execOp,ho,aaK,aal,run_underlying e2,aae,iX,Instr.sureAddr,aau,k1,run_sizeOf w f1,f2,aas];by_cases A3:len=0
     ·subst A3;simp
     ·simp [A3,dI]
    ·cases hv
   ·cases hv
  ·cases hv
 ·cases hv
theorem GG (h:bk E R w β s a) (t:TypeId) (ho:o.op=.makeMap t none):cn E R w β s a o ((s.fq (.map [])).put o.dst (.v (.map s.G.length))):=by
 have jQ:jw (R.add (.cu w.heap.size)) (w.alloc (.map #[] 0)) (.map []) (.cu w.heap.size):=⟨#[],0,heap_alloc_new w _,trivial,rfl,fun i e he=>by simp at he⟩;refine ⟨_,.map (some w.heap.size),w.alloc (.map #[] 0),R.add (.cu w.heap.size),β,?_,.inl rfl,(h.oE (.map #[] 0) (.map []) (.cu w.heap.size) (by exact fun _ h=>h) jQ).put o.dst (x:=.v (.map s.G.length)) (Rel.map (iW h _)),by rw [bo]; exact dP h _ _ (by exact fun _ h=>h)⟩;simp only [execOp,ho,Instr.makeMap,aau,aal,run_newObj,aae,aas];rfl
theorem qy (h:bk E R w β s a) (t:TypeId) (x y:Operand) (ho:o.op=.makeSlice t x y) {i:TI} (hi:E.ti t=some i) {k k':IntKind} {n m:Int} (hx:bJ E s.af x=.v (.int k n)) (hy:bJ E s.af y=.v (.int k' m))
  {elem esz r7:Nat} {ag:Bool} {z:AV} (hk:i.k=.sl elem esz ag r7 (some z)) (hz:z.cells.length=esz) (KN:1≤esz) (tu:z.ba=true) (hc:0≤n∧n≤m∧m≤140737488355328∧m * r7≤140737488355328) :
  ∃ us,aW R w (aC (aav m.toNat z)) us∧(∀ v∈us,v.oneCell'=true)∧(execOp a.eval o).run E.P w=.ok (.value (.slice (some ⟨w.heap.size,0,none⟩) n.toNat m.toNat)) (w.alloc (.cells ⟨us⟩ elem)):=by
 have rx:=aY h x;have ry:=aY h y;rw [hx] at rx;rw [hy] at ry;have fy:Rel R w (.int k n) (a.eval x):=rx;have tp:Rel R w (.int k' m) (a.eval y):=ry;generalize iX:a.eval x=xv at fy;generalize hyv:a.eval y=yv at tp;cases fy;cases tp;obtain ⟨c1,c2,c3,c4⟩:=hc;obtain ⟨jR,u,e1,e2,e3,e4,e5,e6⟩:=dC E hi;rw [hk] at e5;obtain ⟨ie,ue,rfl,f1,f2,f3,f4,f5,f6⟩:=fP e5;obtain ⟨zc,tk,Ki⟩:=eP f6;have Xk:=Ki R w;obtain ⟨d1,d2⟩:=Rel.cells Xk tu;have xw:zc.cells.size=esz:=by rw [← hz,d1.length]; simp
 obtain ⟨z1,z2⟩:=qU Xk tu m.toNat;have Cl:((abd (m.toNat * esz)).map fun i=>zc.cells[i % zc.cells.size]!)=⟨(aav m.toNat zc.cells.toList).flatten⟩:=by
  apply acH;rw [← xw];exact tL zc.cells m.toNat
 have wn:IntKind.i64.wrap n=n:=IntWalk.i64_in n (by omega);have wm:IntKind.i64.wrap m=m:=IntWalk.i64_in m (by omega);have cq:(acM t (.int k n) (.int k' m)).run E.P w=.ok (.slice (some ⟨w.heap.size,0,none⟩) n.toNat m.toNat) (w.alloc (.cells ⟨(aav m.toNat zc.cells.toList).flatten⟩ elem)):=by
  have hby:(ie.bytes:Int) * m≤281474976710656:=by rw [f3,Int.mul_comm]; omega
  have adC:¬ 281474976710656 < (ie.bytes:Int) * m:=by omega
  have h1:¬ m < 0:=by omega
  have h2:¬ n < 0:=by omega
  have h3:¬ m < n:=by omega
  have YU:(typeInfo elem).run E.P w=.ok ie w:=by simp [typeInfo,f1]
  by_cases h0:m.toNat * esz=0
  ·have hm0:m.toNat=0:=by
    rcases acL.1 h0 with h0|h0 <;> omega
   have Ib:∀ f:Nat→Value,Array.map f (abd 0)=#[]:=fun f=>by simp
   simp [acM,run_underlying e2,asInt,asIntOf,YU,wn,wm,h1,h2,h3,adC,run_sizeOf w f1,f2,hm0,newRow];rw [Ib]
  ·simp [acM,run_underlying e2,asInt,asIntOf,YU,wn,wm,h1,h2,h3,adC,run_sizeOf w f1,f2,h0,jS w f1 tk,newRow];rw [← Cl]
 refine ⟨_,z1,z2,?_⟩;simp only [execOp,ho,iX,hyv,aal,cq,aae,aas]
theorem Cm (h:bk E R w β s a) (t:TypeId) (x y:Operand) (ho:o.op=.makeSlice t x y) {i:TI} (hi:E.ti t=some i) {k k':IntKind} {n m:Int} (hx:bJ E s.af x=.v (.int k n)) (hy:bJ E s.af y=.v (.int k' m))
  {elem esz r7:Nat} {ag:Bool} {z:AV} (hk:i.k=.sl elem esz ag r7 (some z)) (hz:z.cells.length=esz) (KN:1≤esz) (tu:z.ba=true) (hc:0≤n∧n≤m∧m≤140737488355328∧m * r7≤140737488355328) :
  cn E R w β s a o ((s.fq (.row (aC (aav m.toNat z)) elem)).put o.dst (.v (.oA s.G.length 0 esz n.toNat m.toNat))):=by
 obtain ⟨us,z1,z2,cq⟩:=qy h t x y ho hi hx hy hk hz KN tu hc;have e:=jx (R:=R) (w:=w) h.g.wf (.cells ⟨us⟩ elem) (.cu w.heap.size);have jQ:jw (R.add (.cu w.heap.size)) (w.alloc (.cells ⟨us⟩ elem)) (.row (aC (aav m.toNat z)) elem) (.cu w.heap.size):=
  ⟨_,heap_alloc_new w _,z1.mono e,z2,fun o' hi=>by have:=h.g.wf _ _ hi; omega⟩
 exact ⟨_,.slice (some ⟨w.heap.size,0,none⟩) n.toNat m.toNat,_,R.add (.cu w.heap.size),β,cq,.inl rfl,(h.oE _ _ (.cu w.heap.size) (by exact fun _ h=>h) jQ).put o.dst (x:=.v (.oA s.G.length 0 esz n.toNat m.toNat)) (Rel.oA (iW h _) (by omega)),by rw [bo]; exact dP h _ _ (by exact fun _ h=>h)⟩
end ops
end Go.Am
namespace Go.Am
open Go
section ops
variable {E:Env} {R:aj} {w:World} {β:Nat→Nat} {s:St} {a:Act} {o:Oper}
theorem oF (x:Array Operand) (f:Operand→Value):x.map f=⟨x.toList.map f⟩:=acH (by simp)
theorem fW {b:Builtin} {args:Array Operand} {tys:Array TypeId} (ho:o.op=.call { callee:=.builtin b,args:=args,argTypes:=tys }) (vs:List Value) (hv:args.toList.map a.eval=vs) :
  (execOp a.eval o).run E.P w=(builtin b tys o.type (args.map fun | .const _=>true | _=>false) ⟨vs⟩).run E.P w:=by
 simp only [execOp,ho,resolve,aal,aas,aae,invoke,oF args a.eval,hv];rfl
theorem fc.length:∀ {l:List (AV × AV)} {es:List MapEntry},fc R w l es→l.length=es.length
 |[],[],_=>rfl
 |_ :: _,_ :: _,h=>by simp [fc.length h.2.2]
 |[],_ :: _,h=>h.elim
 |_ :: _,[],h=>h.elim
theorem QQ (h:bk E R w β s a) {args:Array Operand} {tys:List TypeId} (ho:o.op=.call { callee:=.builtin .len,args:=args,argTypes:=⟨tys⟩ }) {l:List AV} (hl:qm E s.af args.toList=some l) {s':St} (hs:dm E s o.dst .len l tys=some (true,s')) :
  cn E R w β s a o s':=by
 have hr:=jz h hl;generalize hv:args.toList.map a.eval=vs at hr;have hx:=fW (E:=E) (w:=w) ho vs hv;unfold dm at hs;split at hs <;> first | (rename_i h1; cases h1; done) | skip
 ·rename_i x;cases hr with
  |cons h0 h1=>
  cases h1;split at hs
  ·rename_i t tl;split at hs
   ·rename_i i hi;obtain ⟨jR,u,e1,e2,e3,e4,e5,e6⟩:=dC E hi;split at hs
    ·rename_i bs hk;cases hs;cases h0;rw [hk] at e5;have:=tJ e5;subst this;refine ax h (c:=.int .i64 bs.length) ?_ (Rel.int _ _);rw [hx];simp [builtin,aaA,run_underlying e2,goInt,size_bytes]
    ·rename_i kk sz es hk;cases hs;rw [hk] at e5;obtain ⟨ie,ue,rfl,_⟩:=fP e5;refine ax h (c:=.int .i64 es.length) ?_ (Rel.int _ _);rw [hx];cases h0 with
     |lF=>simp [builtin,aaA,run_underlying e2,goInt]
     |kS=>simp [builtin,aaA,run_underlying e2,goInt]
     |qt=>simp [builtin,aaA,run_underlying e2,goInt]
     |nP=>simp [builtin,aaA,run_underlying e2,goInt]
     |pP=>simp [builtin,aaA,run_underlying e2,goInt]
     |list _ hlen _ _=>subst hlen; simp [builtin,aaA,run_underlying e2,goInt]
    ·rename_i id off sz len cap hk;cases hs;rw [hk] at e5;obtain ⟨ie,ue,rfl,_⟩:=fP e5;refine ax h (c:=.int .i64 len) ?_ (Rel.int _ _);rw [hx];cases h0;simp [builtin,aaA,run_underlying e2,goInt]
    ·rename_i id f' off sz len hk;cases hs;rw [hk] at e5;obtain ⟨ie,ue,rfl,_⟩:=fP e5;refine ax h (c:=.int .i64 len) ?_ (Rel.int _ _);rw [hx];cases h0 <;> simp [builtin,aaA,run_underlying e2,goInt]
    ·rename_i n esz ag hk;cases hs;rw [hk] at e5;obtain ⟨e,ie,ue,rfl,_⟩:=tH e5;refine ax h (c:=.int .i64 n) ?_ (Rel.int _ _);rw [hx];simp [builtin,aaA,run_underlying e2,goInt]
    ·rename_i hk;cases hs;rw [hk] at e5;obtain ⟨rfl,_⟩:=qS e5;refine ax h (c:=.int .i64 0) ?_ (Rel.int _ _);rw [hx];cases h0;simp [builtin,aaA,run_underlying e2,goInt]
    ·rename_i id hk;split at hs
     ·rename_i es hg;cases hs;rw [hk] at e5;obtain ⟨rfl,_⟩:=qS e5;cases h0 with
      | @map _ b hb=>
      obtain ⟨aI,clock,g1,g2,g3⟩:=h.g.obj id _ _ hg hb;refine ax h (c:=.int .i64 es.length) ?_ (Rel.int _ _);rw [hx];have jQ:(getObj b).run E.P w=.ok (.map aI clock) w:=by simp [getObj,Sem.run,g1]
      simp [builtin,aaA,run_underlying e2,goInt,jQ,g2.length]
     ·cases hs
    ·cases hs
   ·cases hs
  ·cases hs
 ·cases hs
theorem MO {b:Bool}:∀ {l:List AV} {x v:AV} {c:Value} {cs:List Value},Rel R w x c→aW R w l cs→Ow x l=some v→∃ c',(cs.foldlM Builtin.max2 c).run E.P w=.ok c' w∧Rel R w v c'
 |[],x,v,c,cs,hr,hl,hv=>by
  cases hl;simp only [Ow] at hv;cases hv;exact ⟨c,rfl,hr⟩
 |y :: l,x,v,c,cs,hr,hl,hv=>by
  cases hl with
  |cons hy hl=>
  unfold Ow at hv;split at hv
  ·rename_i mm; cases mm
  ·rename_i k n k' m l' mm;cases mm;split at hv
   ·rename_i hk;subst hk;cases hr;cases hy;obtain ⟨c',h1,h2⟩:=MO (b:=b) (Rel.int k (if m > n then m else n)) hl hv;refine ⟨c',?_,h2⟩;simp only [acJ,aal,Builtin.max2,aas,aae];exact h1
   ·cases hv
  ·cases hv
theorem GH {b:Bool}:∀ {l:List AV} {x v:AV} {c:Value} {cs:List Value},Rel R w x c→aW R w l cs→Ky x l=some v→∃ c',(cs.foldlM acK c).run E.P w=.ok c' w∧Rel R w v c'
 |[],x,v,c,cs,hr,hl,hv=>by
  cases hl;simp only [Ky] at hv;cases hv;exact ⟨c,rfl,hr⟩
 |y :: l,x,v,c,cs,hr,hl,hv=>by
  cases hl with
  |cons hy hl=>
  unfold Ky at hv;split at hv
  ·rename_i mm; cases mm
  ·rename_i k n k' m l' mm;cases mm;split at hv
   ·rename_i hk;subst hk;cases hr;cases hy;obtain ⟨c',h1,h2⟩:=GH (b:=b) (Rel.int k (if m < n then m else n)) hl hv;refine ⟨c',?_,h2⟩;simp only [acJ,aal,acK,aas,aae];exact h1
   ·cases hv
  ·rename_i n m l' mm;cases mm;cases hr;cases hy;obtain ⟨c',h1,h2⟩:=GH (b:=b) (Rel.str (bif acS n m || n == m then n else m)) hl hv;refine ⟨c',?_,h2⟩;have e:(acK (.string ⟨⟨n⟩⟩) (.string ⟨⟨m⟩⟩)).run E.P w=.ok (.string ⟨⟨bif acS n m || n == m then n else m⟩⟩) w:=by
    simp only [acK,Op.stringOp,aal,aas,aae];show Result.andThen ((asBool _).run E.P w) _=_;cases hb:(acS n m || n == m) <;> simp_all [asBool]
   simp only [acJ,aal,e,aae];exact h1
  ·cases hv
theorem QR (h:bk E R w β s a) {args:Array Operand} {tys:Array TypeId} (ho:o.op=.call { callee:=.builtin .max,args:=args,argTypes:=tys }) {x v:AV} {l:List AV} (hl:qm E s.af args.toList=some (x :: l)) (hm:Ow x l=some v) :
  cn E R w β s a o (s.put o.dst (.v v)):=by
 have hr:=jz h hl;generalize hv:args.toList.map a.eval=vs at hr;have hx:=fW (E:=E) (w:=w) ho vs hv;cases hr with
 |cons h0 h1=>
 obtain ⟨c',k1,k2⟩:=MO (E:=E) (b:=true) h0 h1 hm;refine ax h (c:=c') ?_ k2;rw [hx];simp [builtin,Builtin.max_,k1]
theorem QS (h:bk E R w β s a) {args:Array Operand} {tys:Array TypeId} (ho:o.op=.call { callee:=.builtin .min,args:=args,argTypes:=tys }) {x v:AV} {l:List AV} (hl:qm E s.af args.toList=some (x :: l)) (hm:Ky x l=some v) :
  cn E R w β s a o (s.put o.dst (.v v)):=by
 have hr:=jz h hl;generalize hv:args.toList.map a.eval=vs at hr;have hx:=fW (E:=E) (w:=w) ho vs hv;cases hr with
 |cons h0 h1=>
 obtain ⟨c',k1,k2⟩:=GH (E:=E) (b:=true) h0 h1 hm;refine ax h (c:=c') ?_ k2;rw [hx];simp [builtin,Builtin.min_,k1]
end ops
end Go.Am
namespace Go.Am
open Go
section ops
variable {E:Env} {R:aj} {w:World} {β:Nat→Nat} {s:St} {a:Act} {o:Oper}
def aj.upto (R:aj) (g n:Nat) (obj:List RO):aj:=⟨fun b o=>R.I b o∨(b=g∧o < n),obj⟩
theorem aH {l:List RO} {id i:Nat} {x r y:RO} (amF:nth l id=some y) (h:nth (aE l id x) i=some r):(i=id∧r=x)∨(i≠id∧nth l i=some r):=by
 rcases fA h with ⟨rfl,rfl,_⟩|⟨du,h⟩
 ·exact .inl ⟨rfl,rfl⟩
 ·exact .inr ⟨acO du,h⟩
theorem KP (wf:∀ b o,R.I b o→b < w.heap.size) (x:Obj) (n:Nat) (ro:RO):Ext R w (R.upto w.heap.size n (R.obj++[ro])) (w.drew.alloc x):=
 ⟨fun _ _ h=>.inl h,fun b o h=>cH (heap_alloc_old w.drew x b (wf b o h)) o,fun _ r h=>⟨r,bM h,di.refl r⟩,.old fun b hb=>heap_alloc_old w.drew x b hb⟩
theorem KQ (wf:∀ b o,R.I b o→b < w.heap.size) (x:Obj) {n id m:Nat} {r0:RO} (bV:nth R.obj id=some r0) (b' c':Nat) (cI:di r0 (.tok m b' c' 0)):Ext R w (R.upto w.heap.size n (aE R.obj id (.tok m b' c' 0))) (w.drew.alloc x):=
 ⟨fun _ _ h=>.inl h,fun b o h=>cH (heap_alloc_old w.drew x b (wf b o h)) o,fun i r h=>by
  by_cases e:id=i
  ·subst e;rw [bV] at h;cases h;exact ⟨_,aB bV,cI⟩
  ·exact ⟨r,by rw [aj.upto,bn e]; exact h,di.refl r⟩,.old fun b hb=>heap_alloc_old w.drew x b hb⟩
theorem bk.YV (h:bk E R w β s a) {cur:Array Value} {elem:TypeId} {n sz cap:Nat} (hn:n≤cap) (hm:cap≤maxLen) (hs:cur.size=cap * sz) :
  bk E (R.upto w.heap.size (n * sz) (R.obj++[.tok n w.heap.size cap 0])) (w.drew.alloc (.cells cur elem)) β (s.fq (.tok n sz elem)) a ∧
  Step R w β s.boxes (R.upto w.heap.size (n * sz) (R.obj++[.tok n w.heap.size cap 0])) (w.drew.alloc (.cells cur elem)) β s.boxes:=by
 have e:=KP (R:=R) (w:=w) h.g.wf (.cells cur elem) (n * sz) (.tok n w.heap.size cap 0);have old:∀ b,b < w.heap.size→(w.drew.alloc (.cells cur elem)).heap[b]?=w.heap[b]?:=fun b hb=>heap_alloc_old w.drew _ b hb
 have new:(w.drew.alloc (.cells cur elem)).heap[w.heap.size]?=some (.cells cur elem (0,0)):=heap_alloc_new w.drew _;have hI:∀ b o,b < w.heap.size→(R.upto w.heap.size (n * sz) (R.obj++[.tok n w.heap.size cap 0])).I b o→R.I b o:=fun b o hb hi=>by
  rcases hi with hi|⟨hi,_⟩
  ·exact hi
  ·omega
 refine ⟨⟨⟨by simp [St.fq,aj.upto,h.g.len],fun id g r h1 h2=>?_,fun i j ri rj b h1 h2 b1 b2=>?_,fun b o hi=>?_,fun g cs hg=>(h.g.fm g cs hg).mono e,by first | exact h.g.lo | exact abQ h.g.lo⟩,?_,h.t.mono e,h.n,h.d.mono e⟩,?_⟩
 ·rcases ak h2 with h2|⟨h3,rfl⟩
  ·have cI:=bA h2;rw [h.g.len] at cI;rcases ak h1 with h1|⟨h4,_⟩
   ·exact (h.g.obj id g r h1 h2).mono e (fun b hb=>old b (h.g.cM ⟨id,r,h2,hb⟩)) (fun b o hb=>hI b o (h.g.cM ⟨id,r,h2,hb⟩))
   ·omega
  ·rcases ak h1 with h1|⟨h4,rfl⟩
   ·have:=bA h1;rw [h3,h.g.len] at this;omega
   ·refine ⟨rfl,cur,new,hn,hm,by omega,fun o' zv hi=>?_⟩;rcases hi with hi|⟨_,hi⟩
    ·have:=h.g.wf _ _ hi;omega
    ·omega
 ·rcases ak h1 with g1|⟨h3,e1⟩
  ·rcases ak h2 with g2|⟨h4,e2⟩
   ·exact h.g.inj i j ri rj b g1 g2 b1 b2
   ·have:=h.g.cM ⟨i,ri,g1,b1⟩;rw [e2] at b2;simp [RO.has] at b2;omega
  ·rcases ak h2 with g2|⟨h4,e2⟩
   ·have:=h.g.cM ⟨j,rj,g2,b2⟩;rw [e1] at b1;simp [RO.has] at b1;omega
   ·omega
 ·rcases hi with hi|⟨rfl,_⟩
  ·have:=h.g.wf b o hi;simp;omega
  ·simp
 ·refine h.b.bh e (fun k cs hk=>old _ (h.fD (.inr ⟨k,cs,hk,rfl⟩))) (fun k cs o hk=>hI _ o (h.fD (.inr ⟨k,cs,hk,rfl⟩))) (fun k cs hk hl=>?_);rcases mB (R:=R) (ro:=.tok n w.heap.size cap 0) hl with hl|hl
  ·exact hl
  ·have:=h.fD (.inr ⟨k,cs,hk,rfl⟩);simp [RO.has] at hl;omega
 ·refine ⟨e,rfl,rfl,rfl,by simp,fun b hb _=>old b hb,fun b hb ho=>?_,fun b o hi hb _=>hI b o hb hi⟩;rcases ho with ho|ho
  ·rcases mB (R:=R) (ro:=.tok n w.heap.size cap 0) ho with ho|ho
   ·exact .inl ho
   ·simp [RO.has] at ho;omega
  ·exact .inr ho
theorem Ic (wf:∀ b o,R.I b o→b < w.heap.size) (x:Obj) (n:Nat) (ro:RO):Ext R w (R.upto w.heap.size n (R.obj++[ro])) (w.alloc x):=
 ⟨fun _ _ h=>.inl h,fun b o h=>cH (heap_alloc_old w x b (wf b o h)) o,fun _ r h=>⟨r,bM h,di.refl r⟩,.old fun b hb=>heap_alloc_old w x b hb⟩
theorem bk.UB (h:bk E R w β s a) {cur:Array Value} {elem:TypeId} {n sz cap:Nat} (hn:n≤cap) (hm:cap≤maxLen) (hs:cur.size=cap * sz) :
  bk E (R.upto w.heap.size (n * sz) (R.obj++[.tok n w.heap.size cap 0])) (w.alloc (.cells cur elem)) β (s.fq (.tok n sz elem)) a ∧
  Step R w β s.boxes (R.upto w.heap.size (n * sz) (R.obj++[.tok n w.heap.size cap 0])) (w.alloc (.cells cur elem)) β s.boxes:=by
 have e:=Ic (R:=R) (w:=w) h.g.wf (.cells cur elem) (n * sz) (.tok n w.heap.size cap 0);have old:∀ b,b < w.heap.size→(w.alloc (.cells cur elem)).heap[b]?=w.heap[b]?:=fun b hb=>heap_alloc_old w _ b hb
 have new:(w.alloc (.cells cur elem)).heap[w.heap.size]?=some (.cells cur elem (0,0)):=heap_alloc_new w _;have hI:∀ b o,b < w.heap.size→(R.upto w.heap.size (n * sz) (R.obj++[.tok n w.heap.size cap 0])).I b o→R.I b o:=fun b o hb hi=>by
  rcases hi with hi|⟨hi,_⟩
  ·exact hi
  ·omega
 refine ⟨⟨⟨by simp [St.fq,aj.upto,h.g.len],fun id g r h1 h2=>?_,fun i j ri rj b h1 h2 b1 b2=>?_,fun b o hi=>?_,fun g cs hg=>(h.g.fm g cs hg).mono e,by first | exact h.g.lo | exact abQ h.g.lo⟩,?_,h.t.mono e,h.n,h.d.mono e⟩,?_⟩
 ·rcases ak h2 with h2|⟨h3,rfl⟩
  ·have cI:=bA h2;rw [h.g.len] at cI;rcases ak h1 with h1|⟨h4,_⟩
   ·exact (h.g.obj id g r h1 h2).mono e (fun b hb=>old b (h.g.cM ⟨id,r,h2,hb⟩)) (fun b o hb=>hI b o (h.g.cM ⟨id,r,h2,hb⟩))
   ·omega
  ·rcases ak h1 with h1|⟨h4,rfl⟩
   ·have:=bA h1;rw [h3,h.g.len] at this;omega
   ·refine ⟨rfl,cur,new,hn,hm,by omega,fun o' zv hi=>?_⟩;rcases hi with hi|⟨_,hi⟩
    ·have:=h.g.wf _ _ hi;omega
    ·omega
 ·rcases ak h1 with g1|⟨h3,e1⟩
  ·rcases ak h2 with g2|⟨h4,e2⟩
   ·exact h.g.inj i j ri rj b g1 g2 b1 b2
   ·have:=h.g.cM ⟨i,ri,g1,b1⟩;rw [e2] at b2;simp [RO.has] at b2;omega
  ·rcases ak h2 with g2|⟨h4,e2⟩
   ·have:=h.g.cM ⟨j,rj,g2,b2⟩;rw [e1] at b1;simp [RO.has] at b1;omega
   ·omega
 ·rcases hi with hi|⟨rfl,_⟩
  ·have:=h.g.wf b o hi;simp;omega
  ·simp
 ·refine h.b.bh e (fun k cs hk=>old _ (h.fD (.inr ⟨k,cs,hk,rfl⟩))) (fun k cs o hk=>hI _ o (h.fD (.inr ⟨k,cs,hk,rfl⟩))) (fun k cs hk hl=>?_);rcases mB (R:=R) (ro:=.tok n w.heap.size cap 0) hl with hl|hl
  ·exact hl
  ·have:=h.fD (.inr ⟨k,cs,hk,rfl⟩);simp [RO.has] at hl;omega
 ·refine ⟨e,rfl,rfl,rfl,by simp,fun b hb _=>old b hb,fun b hb ho=>?_,fun b o hi hb _=>hI b o hb hi⟩;rcases ho with ho|ho
  ·rcases mB (R:=R) (ro:=.tok n w.heap.size cap 0) ho with ho|ho
   ·exact .inl ho
   ·simp [RO.has] at ho;omega
  ·exact .inr ho
theorem zw (h:bk E R w β s a) (t:TypeId) (len:Nat) (parts:Array (Nat × Operand)) (ho:o.op=.buildSlice t len parts) {k:LK} {esz:Nat} {es:List AV} (hv:cV E s t len parts.toList=some (.list k esz es)) {i:TI} (hi:E.ti t=some i) {elem cL r7:Nat} {ag:Bool} {z:Option AV} (hk:i.k=.sl elem cL ag r7 z) (hm:len≤65536) :
  cn E R w β s a o ((s.fq (.tok len esz elem)).put o.dst (.v (.list (.own s.G.length) esz es))):=by
 obtain ⟨es',YR,us,adD,hve,cq,g2,hlen,u2,u3,i',ag',by',z',tj,kT⟩:=kU h t len parts ho hv;cases hve;rw [hi] at tj;cases tj;rw [hk] at kT;cases kT;have hus:us.length=len * esz:=by rw [← u2.length,eQ g2,hlen]
 obtain ⟨r1,r2⟩:=h.UB (cur:=⟨us⟩) (elem:=elem) (n:=len) (sz:=esz) (cap:=len) (aat _) (by simp [maxLen]; omega) (by simpa using hus);refine ⟨_,.slice (some ⟨w.heap.size,0,none⟩) len len,_,_,β,cq,.inl rfl,r1.put o.dst (x:=.v (.list (.own s.G.length) esz es)) ?_,by rw [bo]; exact r2⟩;refine Rel.list (og g2 (gz.make (u2.mono r2.ext) u3 (fun j x hx=>?_) (fun j hj=>.inr ⟨rfl,?_⟩))) hlen.symm (aat _) ⟨.tok len w.heap.size len 0,iW h _,?_⟩
 ·rw [qR (heap_alloc_new w _)];simpa using hx
 ·rw [eQ g2,hlen] at hj;omega
 ·exact ⟨aat _,fun _=>⟨rfl,.inl rfl,rfl⟩⟩
theorem bk.QT (h:bk E R w β s a) {cur:Array Value} {elem e0:TypeId} {n sz cap id f:Nat} {r0:RO} (hg:nth s.G id=some (.tok f sz e0)) (bV:nth R.obj id=some r0) (hf:∀ b c,di r0 (.tok n b c 0)) (hn:n≤cap) (hm:cap≤maxLen) (hs:cur.size=cap * sz) :
  bk E (R.upto w.heap.size (n * sz) (aE R.obj id (.tok n w.heap.size cap 0))) (w.drew.alloc (.cells cur elem)) β (s.cj (aE s.G id (.tok n sz elem))) a ∧
  Step R w β s.boxes (R.upto w.heap.size (n * sz) (aE R.obj id (.tok n w.heap.size cap 0))) (w.drew.alloc (.cells cur elem)) β s.boxes:=by
 have e:=KQ (R:=R) (w:=w) (n:=n * sz) h.g.wf (.cells cur elem) bV w.heap.size cap (hf _ _);have old:∀ b,b < w.heap.size→(w.drew.alloc (.cells cur elem)).heap[b]?=w.heap[b]?:=fun b hb=>heap_alloc_old w.drew _ b hb
 have new:(w.drew.alloc (.cells cur elem)).heap[w.heap.size]?=some (.cells cur elem (0,0)):=heap_alloc_new w.drew _;have hI:∀ b o,b < w.heap.size→(R.upto w.heap.size (n * sz) (aE R.obj id (.tok n w.heap.size cap 0))).I b o→R.I b o:=fun b o hb hi=>by
  rcases hi with hi|⟨hi,_⟩
  ·exact hi
  ·omega
 have live:∀ b,b < w.heap.size→Live (R.upto w.heap.size (n * sz) (aE R.obj id (.tok n w.heap.size cap 0))) b→Live R b:=fun b hb hl=>by
  obtain ⟨i,r,h1,h2⟩:=hl;rcases aH bV h1 with ⟨_,rfl⟩|⟨_,h1⟩
  ·simp [RO.has] at h2;omega
  ·exact ⟨i,r,h1,h2⟩
 refine ⟨⟨⟨by simp [St.cj,aj.upto,h.g.len],fun i gg r h1 h2=>?_,fun i j ri rj b h1 h2 b1 b2=>?_,fun b o hi=>?_,fun g cs hg=>(h.g.fm g cs hg).mono e,by first | exact h.g.lo | exact abQ h.g.lo⟩,?_,h.t.mono e,h.n,h.d.mono e⟩,?_⟩
 ·rcases aH bV h2 with ⟨rfl,rfl⟩|⟨du,h2⟩
  ·simp only [St.cj] at h1;rw [aB hg] at h1;cases h1;refine ⟨rfl,cur,new,hn,hm,by omega,fun o' zv hi=>?_⟩;rcases hi with hi|⟨_,hi⟩
   ·have:=h.g.wf _ _ hi;omega
   ·omega
  ·simp only [St.cj] at h1;rw [bn (acO du)] at h1;exact (h.g.obj i gg r h1 h2).mono e (fun b hb=>old b (h.g.cM ⟨i,r,h2,hb⟩)) (fun b o hb=>hI b o (h.g.cM ⟨i,r,h2,hb⟩))
 ·rcases aH bV h1 with ⟨g3,e1⟩|⟨g3,g1⟩
  ·rcases aH bV h2 with ⟨g4,e2⟩|⟨g4,g2⟩
   ·omega
   ·have:=h.g.cM ⟨j,rj,g2,b2⟩;rw [e1] at b1;simp [RO.has] at b1;omega
  ·rcases aH bV h2 with ⟨g4,e2⟩|⟨g4,g2⟩
   ·have:=h.g.cM ⟨i,ri,g1,b1⟩;rw [e2] at b2;simp [RO.has] at b2;omega
   ·exact h.g.inj i j ri rj b g1 g2 b1 b2
 ·rcases hi with hi|⟨rfl,_⟩
  ·have:=h.g.wf b o hi;simp;omega
  ·simp
 ·exact h.b.bh e (fun k cs hk=>old _ (h.fD (.inr ⟨k,cs,hk,rfl⟩))) (fun k cs o hk=>hI _ o (h.fD (.inr ⟨k,cs,hk,rfl⟩))) (fun k cs hk hl=>live _ (h.fD (.inr ⟨k,cs,hk,rfl⟩)) hl)
 ·refine ⟨e,rfl,rfl,rfl,by simp,fun b hb _=>old b hb,fun b hb ho=>?_,fun b o hi hb _=>hI b o hb hi⟩;rcases ho with ho|ho
  ·exact .inl (live b hb ho)
  ·exact .inr ho
theorem bk.UC (h:bk E R w β s a) {cur:Array Value} {news:List Value} {elem:TypeId} {n sz id f g c k:Nat} (hg:nth s.G id=some (.tok f sz elem)) (bV:nth R.obj id=some (.tok f g c k)) (hf:f < n) (hn:n≤c)
  (lG:w.heap[g]?=some (.cells cur elem (0,0))) (hs:cur.size=k+c * sz) (hm:c≤maxLen) (hl:f * sz+news.length=n * sz) :
  Ext R w (R.upto g (k+n * sz) (aE R.obj id (.tok n g c k))) (w.setRow g (cur.toList.take (k+f * sz)++news++cur.toList.drop (k+f * sz+news.length)).toArray) ∧
  bk E (R.upto g (k+n * sz) (aE R.obj id (.tok n g c k))) (w.setRow g (cur.toList.take (k+f * sz)++news++cur.toList.drop (k+f * sz+news.length)).toArray) β (s.cj (aE s.G id (.tok n sz elem))) a ∧
  Step R w β s.boxes (R.upto g (k+n * sz) (aE R.obj id (.tok n g c k))) (w.setRow g (cur.toList.take (k+f * sz)++news++cur.toList.drop (k+f * sz+news.length)).toArray) β s.boxes:=by
 obtain ⟨_,Ie,Xl,_,_,_,oG⟩:=h.g.obj id _ _ hg bV;rw [lG] at Xl;cases Xl;have hle:n * sz≤c * sz:=aa6 _ hn;generalize r8:(cur.toList.take (k+f * sz)++news++cur.toList.drop (k+f * sz+news.length)).toArray=cur2;have old:∀ b,b≠g→(w.setRow g cur2).heap[b]?=w.heap[b]?:=fun b hb=>setRow_other w g b cur2 hb
 have new:(w.setRow g cur2).heap[g]?=some (.cells cur2 elem (0,0)):=setRow_heap w g cur cur2 elem (0,0) lG;have hlen:k+f * sz≤cur.toList.length:=by simp; omega
 have gX:cur2.size=k+c * sz:=by
  rw [← r8];simp;omega
 have A7:Live R g:=⟨id,_,bV,rfl⟩;have e:Ext R w (R.upto g (k+n * sz) (aE R.obj id (.tok n g c k))) (w.setRow g cur2):=by
  refine ⟨fun _ _ hi=>.inl hi,fun b o hi=>?_,fun i r hr=>?_,fun b r hb=>⟨r,(old b fun e=>by subst e; rw [lG] at hb; cases hb).trans hb,rfl,rfl,rfl,rfl,rfl⟩⟩
  ·by_cases hb:b=g
   ·subst hb;have ho:o < k+f * sz:=Nat.lt_of_not_le fun hle=>oG o hle hi
    simp only [World.cell?,new,lG];have:cur2[o]?=cur[o]?:=by
     rw [← r8,List.append_assoc];simp only [List.getElem?_toArray];rw [acG (by simp; omega),acC,if_pos ho,Array.getElem?_toList]
    simp [this]
   ·exact cH (old b hb) o
  ·by_cases ei:id=i
   ·subst ei;rw [bV] at hr;cases hr;exact ⟨_,aB bV,by omega,fun e=>by omega⟩
   ·exact ⟨r,by rw [aj.upto,bn ei]; exact hr,di.refl r⟩
 have hI:∀ b o,b≠g→(R.upto g (k+n * sz) (aE R.obj id (.tok n g c k))).I b o→R.I b o:=fun b o hb hi=>by
  rcases hi with hi|⟨hi,_⟩
  ·exact hi
  ·exact absurd hi hb
 have live:∀ b,Live (R.upto g (k+n * sz) (aE R.obj id (.tok n g c k))) b→Live R b:=fun b hl=>by
  obtain ⟨i,r,h1,h2⟩:=hl;rcases aH bV h1 with ⟨_,rfl⟩|⟨_,h1⟩
  ·exact ⟨id,_,bV,h2⟩
  ·exact ⟨i,r,h1,h2⟩
 have wx:∀ k cs,eJ s.boxes k=some cs→β k≠g:=fun k cs hk eq=>(h.b.box k cs hk).2.2 (eq ▸ A7)
 refine ⟨e,⟨⟨by simp [St.cj,aj.upto,h.g.len],fun i gg r h1 h2=>?_,fun i j ri rj b h1 h2 b1 b2=>?_,fun b o hi=>?_,fun g cs hg=>(h.g.fm g cs hg).mono e,by first | exact h.g.lo | exact abQ h.g.lo⟩,?_,h.t.mono e,h.n,h.d.mono e⟩,?_⟩
 ·rcases aH bV h2 with ⟨rfl,rfl⟩|⟨du,h2⟩
  ·simp only [St.cj] at h1;rw [aB hg] at h1;cases h1;refine ⟨rfl,cur2,new,hn,hm,gX,fun o' zv hi=>?_⟩;rcases hi with hi|⟨_,hi⟩
   ·exact oG o' (by have:=aa6 sz (Nat.le_of_lt hf); omega) hi
   ·omega
  ·simp only [St.cj] at h1;rw [bn (acO du)] at h1;have YW:∀ b,r.has b→b≠g:=fun b hb eq=>du (h.g.inj i id _ _ b h2 bV hb (by rw [eq]; rfl))
   exact (h.g.obj i gg r h1 h2).mono e (fun b hb=>old b (YW b hb)) (fun b o hb=>hI b o (YW b hb))
 ·rcases aH bV h1 with ⟨g3,e1⟩|⟨g3,g1⟩
  ·rcases aH bV h2 with ⟨g4,e2⟩|⟨g4,g2⟩
   ·omega
   ·rw [e1] at b1;exact g3.trans (h.g.inj id j _ _ b bV g2 b1 b2)
  ·rcases aH bV h2 with ⟨g4,e2⟩|⟨g4,g2⟩
   ·rw [e2] at b2;exact (h.g.inj i id _ _ b g1 bV b1 b2).trans g4.symm
   ·exact h.g.inj i j ri rj b g1 g2 b1 b2
 ·rcases hi with hi|⟨rfl,_⟩
  ·have:=h.g.wf b o hi;simpa using this
  ·have:=bE lG;simpa using this
 ·exact h.b.bh e (fun q cs hk=>old _ (wx q cs hk)) (fun q cs o hk=>hI _ o (wx q cs hk)) (fun q cs hk hl=>live _ hl)
 ·refine ⟨e,rfl,rfl,rfl,by simp,fun b hb wy=>old b (fun eq=>wy (.inl (eq ▸ A7))),fun b hb ho=>?_,fun b o hi hb wy=>hI b o (fun eq=>wy (.inl (eq ▸ A7))) hi⟩;rcases ho with ho|ho
  ·exact .inl (live b ho)
  ·exact .inr ho
structure One (w w':World) (x:Obj):Prop where
 old:∀ b,b < w.heap.size→w'.heap[b]?=w.heap[b]?
 new:w'.heap[w.heap.size]?=some x
 size:w'.heap.size=w.heap.size+1
 os:w'.os=w.os
 tape:w'.tape=w.tape
 output:w'.output=w.output
 drawn:w.drawn≤w'.drawn
theorem One.alloc (w:World) (x:Obj):One w (w.alloc x) x:=⟨fun b hb=>heap_alloc_old w x b hb,heap_alloc_new w x,by simp,rfl,rfl,rfl,aat _⟩
theorem One.drew (w:World) (x:Obj):One w (w.drew.alloc x) x:=⟨fun b hb=>heap_alloc_old w.drew x b hb,heap_alloc_new w.drew x,by simp,rfl,rfl,rfl,Nat.le_succ _⟩
theorem UD {w':World} {x:Obj} (o1:One w w' x) (wf:∀ b o,R.I b o→b < w.heap.size) {n id:Nat} {r0 r1:RO} (bV:nth R.obj id=some r0) (hle:di r0 r1):Ext R w (R.upto w.heap.size n (aE R.obj id r1)) w':=
 ⟨fun _ _ h=>.inl h,fun b o h=>cH (o1.old b (wf b o h)) o,fun i r h=>by
  by_cases e:id=i
  ·subst e;rw [bV] at h;cases h;exact ⟨_,aB bV,hle⟩
  ·exact ⟨r,by rw [aj.upto,bn e]; exact h,di.refl r⟩,.old fun b hb=>o1.old b hb⟩
theorem bk.YX (h:bk E R w β s a) {w':World} {x:Obj} (o1:One w w' x) {n id:Nat} {r0 r1:RO} {Ql go:GO} (hg:nth s.G id=some Ql) (bV:nth R.obj id=some r0) (hle:di r0 r1) (Co:∀ b,r1.has b→b=w.heap.size∨r0.has b)
  (jQ:jw (R.upto w.heap.size n (aE R.obj id r1)) w' go r1) :
  bk E (R.upto w.heap.size n (aE R.obj id r1)) w' β (s.cj (aE s.G id go)) a∧Step R w β s.boxes (R.upto w.heap.size n (aE R.obj id r1)) w' β s.boxes:=by
 have e:=UD (R:=R) (n:=n) o1 h.g.wf bV hle;have hI:∀ b o,b < w.heap.size→(R.upto w.heap.size n (aE R.obj id r1)).I b o→R.I b o:=fun b o hb hi=>by
  rcases hi with hi|⟨hi,_⟩
  ·exact hi
  ·omega
 have live:∀ b,b < w.heap.size→Live (R.upto w.heap.size n (aE R.obj id r1)) b→Live R b:=fun b hb hl=>by
  obtain ⟨i,r,h1,h2⟩:=hl;rcases aH bV h1 with ⟨_,rfl⟩|⟨_,h1⟩
  ·rcases Co b h2 with h3|h3
   ·omega
   ·exact ⟨id,r0,bV,h3⟩
  ·exact ⟨i,r,h1,h2⟩
 refine ⟨⟨⟨by simp [St.cj,aj.upto,h.g.len],fun i gg r h1 h2=>?_,fun i j ri rj b h1 h2 b1 b2=>?_,fun b o hi=>?_,fun g cs hg=>(h.g.fm g cs hg).mono e,Nat.le_trans h.g.lo o1.drawn⟩,?_,h.t.mono e,h.n,h.d.mono e⟩,?_⟩
 ·rcases aH bV h2 with ⟨rfl,rfl⟩|⟨du,h2⟩
  ·simp only [St.cj] at h1;rw [aB hg] at h1;cases h1;exact jQ
  ·simp only [St.cj] at h1;rw [bn (acO du)] at h1;exact (h.g.obj i gg r h1 h2).mono e (fun b hb=>o1.old b (h.g.cM ⟨i,r,h2,hb⟩)) (fun b o hb=>hI b o (h.g.cM ⟨i,r,h2,hb⟩))
 ·rcases aH bV h1 with ⟨g3,e1⟩|⟨g3,g1⟩
  ·rcases aH bV h2 with ⟨g4,e2⟩|⟨g4,g2⟩
   ·omega
   ·rw [e1] at b1;rcases Co b b1 with b3|b3
    ·have:=h.g.cM ⟨j,rj,g2,b2⟩;omega
    ·exact g3.trans (h.g.inj id j _ _ b bV g2 b3 b2)
  ·rcases aH bV h2 with ⟨g4,e2⟩|⟨g4,g2⟩
   ·rw [e2] at b2;rcases Co b b2 with b3|b3
    ·have:=h.g.cM ⟨i,ri,g1,b1⟩;omega
    ·exact (h.g.inj i id _ _ b g1 bV b1 b3).trans g4.symm
   ·exact h.g.inj i j ri rj b g1 g2 b1 b2
 ·rcases hi with hi|⟨rfl,_⟩
  ·have:=h.g.wf b o hi;rw [o1.size];omega
  ·rw [o1.size]; omega
 ·exact h.b.bh e (fun q cs hk=>o1.old _ (h.fD (.inr ⟨q,cs,hk,rfl⟩))) (fun q cs o hk=>hI _ o (h.fD (.inr ⟨q,cs,hk,rfl⟩))) (fun q cs hk hl=>live _ (h.fD (.inr ⟨q,cs,hk,rfl⟩)) hl)
 ·refine ⟨e,o1.os,o1.tape,o1.output,by rw [o1.size]; omega,fun b hb _=>o1.old b hb,fun b hb ho=>?_,fun b o hi hb _=>hI b o hb hi⟩;rcases ho with ho|ho
  ·exact .inl (live b hb ho)
  ·exact .inr ho
theorem bk.UE (h:bk E R w β s a) {cur cur2:Array Value} {elem:TypeId} {n id g:Nat} {r0 r1:RO} {Ql go:GO} (hg:nth s.G id=some Ql) (bV:nth R.obj id=some r0) (hg0:r0.has g) (hle:di r0 r1) (Co:∀ b,r1.has b→r0.has b)
  (lG:w.heap[g]?=some (.cells cur elem (0,0))) (Cp:∀ o,R.I g o→cur2[o]?=cur[o]?)
  (jQ:Ext R w (R.upto g n (aE R.obj id r1)) (w.setRow g cur2)→jw (R.upto g n (aE R.obj id r1)) (w.setRow g cur2) go r1) :
  Ext R w (R.upto g n (aE R.obj id r1)) (w.setRow g cur2)∧bk E (R.upto g n (aE R.obj id r1)) (w.setRow g cur2) β (s.cj (aE s.G id go)) a∧Step R w β s.boxes (R.upto g n (aE R.obj id r1)) (w.setRow g cur2) β s.boxes:=by
 have old:∀ b,b≠g→(w.setRow g cur2).heap[b]?=w.heap[b]?:=fun b hb=>setRow_other w g b cur2 hb
 have new:(w.setRow g cur2).heap[g]?=some (.cells cur2 elem (0,0)):=setRow_heap w g cur cur2 elem (0,0) lG;have A7:Live R g:=⟨id,_,bV,hg0⟩;have e:Ext R w (R.upto g n (aE R.obj id r1)) (w.setRow g cur2):=by
  refine ⟨fun _ _ hi=>.inl hi,fun b o hi=>?_,fun i r hr=>?_,fun b r hb=>⟨r,(old b fun e=>by subst e; rw [lG] at hb; cases hb).trans hb,rfl,rfl,rfl,rfl,rfl⟩⟩
  ·by_cases hb:b=g
   ·subst hb;simp only [World.cell?,new,lG,Cp o hi]
   ·exact cH (old b hb) o
  ·by_cases ei:id=i
   ·subst ei;rw [bV] at hr;cases hr;exact ⟨_,aB bV,hle⟩
   ·exact ⟨r,by rw [aj.upto,bn ei]; exact hr,di.refl r⟩
 have hI:∀ b o,b≠g→(R.upto g n (aE R.obj id r1)).I b o→R.I b o:=fun b o hb hi=>by
  rcases hi with hi|⟨hi,_⟩
  ·exact hi
  ·exact absurd hi hb
 have live:∀ b,Live (R.upto g n (aE R.obj id r1)) b→Live R b:=fun b hl=>by
  obtain ⟨i,r,h1,h2⟩:=hl;rcases aH bV h1 with ⟨_,rfl⟩|⟨_,h1⟩
  ·exact ⟨id,_,bV,Co b h2⟩
  ·exact ⟨i,r,h1,h2⟩
 have wx:∀ k cs,eJ s.boxes k=some cs→β k≠g:=fun k cs hk eq=>(h.b.box k cs hk).2.2 (eq ▸ A7)
 refine ⟨e,⟨⟨by simp [St.cj,aj.upto,h.g.len],fun i gg r h1 h2=>?_,fun i j ri rj b h1 h2 b1 b2=>?_,fun b o hi=>?_,fun g cs hg=>(h.g.fm g cs hg).mono e,h.g.lo⟩,?_,h.t.mono e,h.n,h.d.mono e⟩,?_⟩
 ·rcases aH bV h2 with ⟨rfl,rfl⟩|⟨du,h2⟩
  ·simp only [St.cj] at h1;rw [aB hg] at h1;cases h1;exact jQ e
  ·simp only [St.cj] at h1;rw [bn (acO du)] at h1;have YW:∀ b,r.has b→b≠g:=fun b hb eq=>du (h.g.inj i id _ _ b h2 bV hb (by rw [eq]; exact hg0))
   exact (h.g.obj i gg r h1 h2).mono e (fun b hb=>old b (YW b hb)) (fun b o hb=>hI b o (YW b hb))
 ·rcases aH bV h1 with ⟨g3,e1⟩|⟨g3,g1⟩
  ·rcases aH bV h2 with ⟨g4,e2⟩|⟨g4,g2⟩
   ·omega
   ·rw [e1] at b1;exact g3.trans (h.g.inj id j _ _ b bV g2 (Co b b1) b2)
  ·rcases aH bV h2 with ⟨g4,e2⟩|⟨g4,g2⟩
   ·rw [e2] at b2;exact (h.g.inj i id _ _ b g1 bV b1 (Co b b2)).trans g4.symm
   ·exact h.g.inj i j ri rj b g1 g2 b1 b2
 ·rcases hi with hi|⟨rfl,_⟩
  ·have:=h.g.wf b o hi;simpa using this
  ·have:=bE lG;simpa using this
 ·exact h.b.bh e (fun q cs hk=>old _ (wx q cs hk)) (fun q cs o hk=>hI _ o (wx q cs hk)) (fun q cs hk hl=>live _ hl)
 ·refine ⟨e,rfl,rfl,rfl,by simp,fun b hb wy=>old b (fun eq=>wy (.inl (eq ▸ A7))),fun b hb ho=>?_,fun b o hi hb wy=>hI b o (fun eq=>wy (.inl (eq ▸ A7))) hi⟩;rcases ho with ho|ho
  ·exact .inl (live b ho)
  ·exact .inr ho
theorem zl.set {ts:List TR} {j:Nat} {t t':TR} (ht:nth ts j=some t) (hle:qv t t'):zl ts (aE ts j t'):=fun i u hu=>by
 by_cases e:j=i
 ·subst e;rw [ht] at hu;cases hu;exact ⟨t',aB ht,hle⟩
 ·exact ⟨u,by rw [bn e]; exact hu,qv.refl u⟩
theorem MP {ts:List TR} {j n g c b:Nat} (h:RO.has (.bt (aE ts j (.tok n g c))) b):b=g∨RO.has (.bt ts) b:=by
 obtain ⟨i,f,c',hi⟩:=h;rcases fA hi with ⟨_,e,_⟩|⟨_,hi⟩
 ·cases e; exact .inl rfl
 ·exact .inr ⟨i,f,c',hi⟩
theorem Fe.of {R':aj} {w':World} {sz f:Nat} {e:TypeId} {t:TR} (h:Fe R w sz e f t) (hold:∀ f b c,t=.tok f b c→w'.heap[b]?=w.heap[b]?∧∀ o,R'.I b o→R.I b o):Fe R' w' sz e f t:=by
 cases t with
 |bL=>exact h
 |full f'=>exact h
 |tok f' b c=>
  obtain ⟨h0,cur,h1,h2,h3,h4,h5⟩:=h;obtain ⟨k1,k2⟩:=hold f' b c rfl;exact ⟨h0,cur,k1.trans h1,h2,h3,h4,fun o ho hi=>h5 o ho (k2 o hi)⟩
theorem Ca.set {R':aj} {w':World} {sz:Nat} {e:TypeId} {fs:List Nat} {ts:List TR} (h:Ca R w sz e fs ts) {j n g c:Nat} (r8:Fe R' w' sz e n (.tok n g c)) (QU:∀ i f c,nth ts i=some (.tok f g c)→i=j)
  (hold:∀ i f b c,i≠j→nth ts i=some (.tok f b c)→w'.heap[b]?=w.heap[b]?∧∀ o,R'.I b o→R.I b o):Ca R' w' sz e (aE fs j n) (aE ts j (.tok n g c)):=by
 obtain ⟨h1,h2,h3⟩:=h;refine ⟨by simp [h1],fun i i' f1 b c1 f2 c2 q1 q2=>?_,fun i f1 t1 q1 q2=>?_⟩
 ·rcases fA q1 with ⟨n1,e1,_⟩|⟨n1,q1⟩
  ·cases e1;rcases fA q2 with ⟨n2,_,_⟩|⟨n2,q2⟩
   ·exact n1.symm.trans n2
   ·exact absurd (QU _ _ _ q2).symm n2
  ·rcases fA q2 with ⟨n2,e2,_⟩|⟨n2,q2⟩
   ·cases e2;exact (QU _ _ _ q1).trans n2
   ·exact h2 i i' _ _ _ _ _ q1 q2
 ·rcases fA q1 with ⟨n1,e1,_⟩|⟨n1,q1⟩
  ·rcases fA q2 with ⟨_,e2,_⟩|⟨n2,_⟩
   ·subst e1 e2;exact r8
   ·exact absurd n1 n2
  ·rcases fA q2 with ⟨n2,_,_⟩|⟨n2,q2⟩
   ·exact absurd n2 n1
   ·exact (h3 i f1 t1 q1 q2).of fun f b c ht=>by subst ht; exact hold i f b c (acO n2) q2
end ops
end Go.Am
