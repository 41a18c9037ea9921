/- The abstract machine: what it does is what the model does: slices that are built and cut. -/
import Derived.Test.YtegoimldbgdeiaaGreatAmKB
import Derived.IntWalk
set_option linter.all false
open Array renaming range→aaT, ext'→aa1
open Bool renaming and_eq_true→aaN
open Go.Builtin renaming len_→aax, min2→aa4
open Go.Instr renaming sliceAt→aaL, slice→aaO, buildSlice→aaQ, sliceBound→aa2, makeSlice→aa6
open Go.Op renaming bytesLess→abc
open Go.Result renaming andThen_ok→aal
open Go.Sem renaming run_bind→aao, run_pure→aap
open List renaming replicate→aav, length_nil→aaI, length_append→aaY, getElem?_take→aaZ, getElem?_append_left→aa0, foldlM_cons→aa3, getElem?_eq_none→aa7, mem_of_mem_take→aa9, replicate_succ→aba
open Nat renaming le_refl→aaq, eq_of_beq_eq_true→aaK, le_of_ble_eq_true→aaM, le_zero_eq→aaR, mul_le_mul_right→aaS, le_succ_of_le→aaU, succ_mul→aaV, add_mul→aaX, mul_eq_zero→aa5, zero_mul→abb
open Ne renaming symm→aa8
open Option renaming map_none→aas, map_some→aaW
namespace Go.Am
open Go
theorem bZ (l r:List AV):an (l++r)=an l++an r:=by
 induction l with
 |nil=>rfl
 |cons e l ih=>simp [an,ih]
theorem dH {sz:Nat} {es:List AV} (h:gD sz es):(an es).length=es.length * sz:=by
 induction es with
 |nil=>simp [an]
 |cons e es ih=>
  have h1:=(h e (by simp)).1;have:=ih (fun x hx=>h x (by simp [hx]));simp only [an,aaY,this,h1,List.length_cons,aaX];omega
section rel
variable {R:ai} {w:World}
theorem mB {b sz:Nat}:∀ {es:List AV} {o:Nat},gD sz es→fN R w b o (an es)→iW R w b o sz es
 |[],_,_,_=>.nil
 |e :: es,o,h,hc=>by
  obtain ⟨h1,h2,h3⟩:=h e (by simp);obtain ⟨vs,k1,k2,k3,k4⟩:=hc.get;have hd:=hc.drop sz;have Yg:(an (e :: es)).drop sz=an es:=by simp only [an]; rw [← h1,List.drop_left]
  have Ms:(an (e :: es)).take sz=e.cells:=by simp only [an]; rw [← h1,List.take_left]
  rw [Yg] at hd;refine .cons h1 h2 h3 ?_ (mB (fun x hx=>h x (by simp [hx])) hd);have kt:=k1.take sz;rw [Ms] at kt;refine .make kt (fun v hv=>k2 v (aa9 hv)) (fun j v hv=>k3 j v ?_) (fun j hj=>k4 j ?_)
  ·rw [aaZ] at hv;split at hv
   ·exact hv
   ·cases hv
  ·simp only [an,aaY];omega
theorem zx {b sz:Nat}:∀ {es:List AV} {o:Nat},iW R w b o sz es→gD sz es∧∃ vs,aL R w (an es) vs∧(∀ v∈vs,v.oneCell'=true)∧(∀ j v,vs[j]?=some v→w.cell? ⟨b,o+j,none⟩=some v)∧∀ j,j < es.length * sz→R.I b (o+j)
 |[],o,_=>⟨fun e he=>by simp at he,[],.nil,by simp,by simp,by simp⟩
 |e :: es,o,h=>by
  cases h with
  |cons hl ht hk hc t=>
   obtain ⟨g0,vs,g1,g2,g3,g4⟩:=zx t;obtain ⟨us,f1,f2,f3,f4⟩:=hc.get;have hlen:us.length=sz:=by rw [← f1.length,hl]
   refine ⟨fun x hx=>?_,us++vs,f1.append g1,fun v hv=>?_,fun j v hv=>?_,fun j hj=>?_⟩
   ·rcases List.mem_cons.1 hx with rfl|hx
    ·exact ⟨hl,ht,hk⟩
    ·exact g0 x hx
   ·rcases List.mem_append.1 hv with hv|hv
    ·exact f2 v hv
    ·exact g2 v hv
   ·by_cases hj:j < sz
    ·rw [aa0 (by omega)] at hv;exact f3 j v hv
    ·rw [List.getElem?_append_right (by omega),hlen] at hv;have:=g3 _ v hv;rwa [show o+sz+(j - sz)=o+j by omega] at this
   ·by_cases GD:j < sz
    ·exact f4 j (by omega)
    ·have:=g4 (j - sz) (by simp only [List.length_cons,aaX] at hj; omega);rwa [show o+sz+(j - sz)=o+j by omega] at this
theorem we {b sz:Nat}:∀ (n:Nat) {es:List AV} {o:Nat},iW R w b o sz es→iW R w b (o+n * sz) sz (es.drop n)
 |0,es,o,h=>by simpa using h
 |n+1,[],o,h=>by simpa using iW.nil
 |n+1,e :: es,o,h=>by
  cases h with
  |cons hl ht hk hc t=>
   have:=we n t;rw [show o+sz+n * sz=o+(n+1) * sz by rw [aaX]; omega] at this;simpa using this
theorem wg {b sz:Nat}:∀ (n:Nat) {es:List AV} {o:Nat},iW R w b o sz es→iW R w b o sz (es.take n)
 |0,es,o,h=>by simpa using iW.nil
 |n+1,[],o,h=>by simpa using iW.nil
 |n+1,e :: es,o,h=>by
  cases h with
  |cons hl ht hk hc t=>simpa using iW.cons hl ht hk hc (wg n t)
end rel
theorem fc {sz n:Nat} {z:AV} (h1:z.cells.length=sz) (h2:z.aR=true) (h3:z.closed=true):gD sz (aav n z):=fun e he=>by
 rw [List.mem_replicate] at he;rw [he.2];exact ⟨h1,h2,h3⟩
theorem zy {sz:Nat}:∀ {es:List AV} {i:Nat} {v:AV},gD sz es→i < es.length→v.cells.length=sz→an (ak es i v)=bu (an es) (i * sz) v.cells
 |[],i,v,_,h,_=>by simp at h
 |e :: es,0,v,h,_,hv=>by
  have h1:=(h e (by simp)).1;simp only [ak,an,abb];rw [eN _ 0 _ (by simp; omega)];simp only [List.take_zero,List.nil_append,Nat.zero_add];rw [hv,← h1,List.drop_left]
 |e :: es,i+1,v,h,hi,hv=>by
  have h1:=(h e (by simp)).1;have BG:gD sz es:=fun x hx=>h x (by simp [hx])
  have ih:=zy (i:=i) (v:=v) BG (by simpa using hi) hv;have bW:i < es.length:=by simpa using hi
  have hle:i * sz+sz≤es.length * sz:=by rw [← aaV]; exact aaS _ bW
  have hl:=dH BG;simp only [ak,an];have e1:(i+1) * sz=e.cells.length+i * sz:=by rw [h1,aaV]; omega
  have e2:List.take (e.cells.length+i * sz) e.cells=e.cells:=List.take_of_length_le (by omega);rw [ih,eN _ _ _ (by omega),e1,eN _ _ _ (by simp only [aaY]; omega)];rw [List.take_append,e2,Nat.add_assoc,List.drop_append,List.drop_of_length_le (by omega:e.cells.length≤e.cells.length+(i * sz+v.cells.length))];simp [Nat.add_sub_cancel_left]
theorem Cq {sz:Nat} {es:List AV} {i:Nat} {v:AV} (h:gD sz es) (h1:v.cells.length=sz) (h2:v.aR=true) (h3:v.closed=true):gD sz (ak es i v):=fun e he=>by
 rw [dV] at he;rcases List.mem_or_eq_of_mem_set he with he|rfl
 ·exact h e he
 ·exact ⟨h1,h2,h3⟩
theorem xp {sz:Nat}:∀ {ps:List (Nat × AV)} {es es':List AV},EN sz es ps=some es'→gD sz es →
  xj (fun i=>some (i * sz,sz)) (an es) ps=some (an es')∧gD sz es'∧es'.length=es.length
 |[],es,es',h,hk=>by simp [EN] at h; subst h; exact ⟨rfl,hk,rfl⟩
 |(i,v) :: ps,es,es',h,hk=>by
  unfold EN at h;split at h
  ·rename_i hc;simp only [aaN] at hc;obtain ⟨⟨⟨hn,hl⟩,hi⟩,Kx⟩:=hc;have hl':=aaK hl;have qP:=aaM hi;obtain ⟨g1,g2,g3⟩:=xp h (Cq hk hl' hn Kx);refine ⟨?_,g2,by simpa using g3⟩;unfold xj;have hle:Nat.ble (i * sz+sz) (an es).length=true:=by
    apply Nat.ble_eq_true_of_le;rw [dH hk,← aaV];exact aaS _ qP
   simp only [hn,hl,hle,Bool.and_self,if_true];rw [← zy hk (by omega) hl'];exact g1
  ·cases h
section ops
variable {E:Env} {R:ai} {w:World} {β:Nat→Nat} {s:St} {a:Act} {o:Oper}
def ai.Xy (R:ai) (b:Nat):ai:=⟨fun b' o=>R.I b' o∨b'=b,R.obj⟩
theorem Dy (wf:∀ b o,R.I b o→b < w.heap.size) (x:Obj):Ext R w (R.Xy w.heap.size) (w.alloc x):=
 ⟨fun _ _ h=>.inl h,fun b o h=>bL (heap_alloc_old w x b (wf b o h)) o,fun _ ro h=>⟨ro,h,cj.refl ro⟩,.old fun b hb=>heap_alloc_old w x b hb⟩
theorem aY.Xy (h:aY E R w β s a) (x:Obj):aY E (R.Xy w.heap.size) (w.alloc x) β s a:=
 h.keep (Dy h.g.wf x) rfl (fun b hb=>heap_alloc_old w x b (h.ea hb)) (fun b o hb hi=>by
  rcases hi with hi|hi
  ·exact hi
  ·have:=h.ea hb;omega) (fun b o hi=>by
  rcases hi with hi|hi
  ·have:=h.g.wf b o hi;simp;omega
  ·simp;omega)
theorem Mt (h:aY E R w β s a) (x:Obj):Step R w β s.boxes (R.Xy w.heap.size) (w.alloc x) β s.boxes:=
 ⟨Dy h.g.wf x,rfl,rfl,rfl,by simp,fun b hb _=>heap_alloc_old w x b hb,fun _ _ ho=>ho,fun b o hi hb _=>by
  rcases hi with hi|hi
  ·exact hi
  ·omega⟩
theorem rb (z:Array Value):∀ (n:Nat),(((aaT (n * z.size)).map fun i=>z[i % z.size]!)).toList=(aav n z.toList).flatten
 |0=>by simp
 |n+1=>by
  have ih:=rb z n;simp only [Array.toList_map,Array.toList_range] at ih ⊢;rw [aaX,Nat.one_mul,List.range_add,List.map_append,ih,List.replicate_succ',List.flatten_append];congr 1;simp only [List.map_map,List.flatten_cons,List.flatten_nil,List.append_nil];apply List.ext_getElem?;intro i;by_cases hi:i < z.size
  ·simp only [List.getElem?_map,List.getElem?_range hi,aaW,Function.comp_apply];rw [Nat.mul_comm n,Nat.mul_add_mod,Nat.mod_eq_of_lt hi];simp [hi]
  ·rw [aa7 (by simp; omega),aa7 (by simp; omega)]
theorem pf {z:AV} {c:Value} (hr:Rel R w z c) (hn:z.aR=true):∀ (n:Nat),aL R w (an (aav n z)) (aav n c.cells.toList).flatten∧∀ v∈(aav n c.cells.toList).flatten,v.oneCell'=true
 |0=>by simp [an]; exact .nil
 |n+1=>by
  obtain ⟨c1,c2⟩:=Rel.cells hr hn;obtain ⟨h1,h2⟩:=pf hr hn n;refine ⟨?_,fun v hv=>?_⟩
  ·simpa [aba,an] using c1.append h1
  ·simp only [aba,List.flatten_cons,List.mem_append] at hv;rcases hv with hv|hv
   ·exact c2 v hv
   ·exact h2 v hv
theorem wh:∀ {ps:List (Nat × AV)} {us:List Value},aL R w (ps.map (·.2)) us→aL R w ((Cd ps).map (·.2)) us
 |[],_,h=>h
 |(_,_) :: _,_,.cons h t=>.cons h.hJ (wh t)
theorem wi:∀ (ps:List (Nat × AV)),(Cd ps).map (·.1)=ps.map (·.1)
 |[]=>rfl
 |(i,v) :: l=>by simp [Cd,wi l]
theorem j7 (h:aY E R w β s a) (t:TypeId) (len:Nat) (parts:Array (Nat × Operand)) (ho:o.op=.buildSlice t len parts) {v:AV} (hv:cG E s t len parts.toList=some v) :
  ∃ es esz us elem,v=.list .full esz es∧(execOp a.eval o).run E.P w=.ok (.value (.slice (some ⟨w.heap.size,0,none⟩) len len)) (w.alloc (.cells ⟨us⟩ elem))∧gD esz es∧es.length=len∧aL R w (an es) us∧(∀ x∈us,x.oneCell'=true)∧∃ i ag pK z,E.ti t=some i∧i.k=.sl elem esz ag pK z:=by
 unfold cG at hv;split at hv
 ·rename_i i ps hi LS;split at hv
  ·rename_i elem esz ag pK z hk;split at hv
   ·rename_i hc;simp only [aaN] at hc;obtain ⟨⟨⟨⟨BH,T3⟩,Yh⟩,hz4⟩,hz5⟩:=hc;have BH:=aaK BH;have T3:=aaM T3;have Yh:=aaM Yh;split at hv
    ·rename_i es BG;cases hv;obtain ⟨hU,u,e1,e2,e3,e4,e5,e6⟩:=ck E hi;rw [hk] at e5;obtain ⟨ie,ue,rfl,f1,f2,f3,f4,f5,f6⟩:=dq e5;obtain ⟨zc,lF,BO⟩:=dK f6;have SB:=BO R w;obtain ⟨c1,c2⟩:=Rel.cells SB hz4;have sQ:zc.cells.size=esz:=by rw [← BH,c1.length]; simp
     obtain ⟨p1,p2⟩:=yN h LS;obtain ⟨z1,z2⟩:=pf SB hz4 len;obtain ⟨g1,g2,g3⟩:=xp BG (fc BH hz4 hz5);obtain ⟨us,u1,u2,u3⟩:=ra (R:=R) (w:=w) _ (wh p1) ((wi ps).trans p2) z1 z2 g1;have T2:(parts.map fun (x:Nat × Operand)=>(x.1,a.eval x.2)).toList=parts.toList.map fun x=>(x.1,a.eval x.2):=by simp
     have kz:((aaT (len * esz)).map fun i=>zc.cells[i % zc.cells.size]!)=⟨(aav len zc.cells.toList).flatten⟩:=by
      apply aa1;rw [← sQ];exact rb zc.cells len
     have hlen:es.length=len:=by simpa using g3
     have bp:(aaQ t len (parts.map fun (x:Nat × Operand)=>(x.1,a.eval x.2))).run E.P w=.ok (.slice (some ⟨w.heap.size,0,none⟩) len len) (w.alloc (.cells ⟨us⟩ elem)):=by
      have O3:¬ len * esz > 2 ^ 24:=by omega
      by_cases h0:len * esz=0
      ·have wj:len=0:=by
        rcases aa5.1 h0 with h0|h0 <;> omega
       subst wj;have u1':Instr.fill (fun i=>some (i * esz,esz)) #[] (parts.toList.map fun x=>(x.1,a.eval x.2))=some ⟨us⟩:=by simpa using u1
       simp only [aaQ,aao,run_underlying e2,aal,run_sizeOf w f1,f2];simp only [abb,gt_iff_lt,Nat.not_lt_zero,if_false,if_true,aao,aap,aal,T2];have EU:∀ f:Nat→Value,Array.map f (aaT 0)=#[]:=fun f=>by simp
       simp only [EU,u1',newRow,aao,run_newObj,aal,aap];rfl
      ·simp only [aaQ,aao,run_underlying e2,aal,run_sizeOf w f1,f2];rw [if_neg O3,if_neg h0];simp only [aao,aap,aal,iY w f1 lF,T2,kz,u1,newRow,run_newObj];rfl
     exact ⟨es,esz,us,elem,rfl,by simp only [execOp,ho,aao,bp,aal,aap],g2,hlen,u2,u3,i,ag,pK,_,hi,hk⟩
    ·cases hv
   ·cases hv
  ·cases hv
 ·cases hv
theorem yi (h:aY E R w β s a) (t:TypeId) (len:Nat) (parts:Array (Nat × Operand)) (ho:o.op=.buildSlice t len parts) {cs:List AV} (hv:mc E s t len parts.toList=some cs) :
  ∃ esz us elem,(execOp a.eval o).run E.P w=.ok (.value (.slice (some ⟨w.heap.size,0,none⟩) len len)) (w.alloc (.cells ⟨us⟩ elem))∧aL R w cs us∧(∀ x∈us,x.oneCell'=true)∧∃ i ag pK z,E.ti t=some i∧i.k=.sl elem esz ag pK z:=by
 unfold mc at hv;split at hv
 ·rename_i i ps hi LS;split at hv
  ·rename_i elem esz ag pK z hk;split at hv
   ·rename_i hc;simp only [aaN] at hc;obtain ⟨⟨⟨BH,T3⟩,Yh⟩,hz4⟩:=hc;have BH:=aaK BH;have T3:=aaM T3;have Yh:=aaM Yh
    ·have g1:=hv;obtain ⟨hU,u,e1,e2,e3,e4,e5,e6⟩:=ck E hi;rw [hk] at e5;obtain ⟨ie,ue,rfl,f1,f2,f3,f4,f5,f6⟩:=dq e5;obtain ⟨zc,lF,BO⟩:=dK f6;have SB:=BO R w;obtain ⟨c1,c2⟩:=Rel.cells SB hz4;have sQ:zc.cells.size=esz:=by rw [← BH,c1.length]; simp
     obtain ⟨p1,p2⟩:=yN h LS;obtain ⟨z1,z2⟩:=pf SB hz4 len;obtain ⟨us,u1,u2,u3⟩:=ra (R:=R) (w:=w) _ (wh p1) ((wi ps).trans p2) z1 z2 g1;have T2:(parts.map fun (x:Nat × Operand)=>(x.1,a.eval x.2)).toList=parts.toList.map fun x=>(x.1,a.eval x.2):=by simp
     have kz:((aaT (len * esz)).map fun i=>zc.cells[i % zc.cells.size]!)=⟨(aav len zc.cells.toList).flatten⟩:=by
      apply aa1;rw [← sQ];exact rb zc.cells len
     have bp:(aaQ t len (parts.map fun (x:Nat × Operand)=>(x.1,a.eval x.2))).run E.P w=.ok (.slice (some ⟨w.heap.size,0,none⟩) len len) (w.alloc (.cells ⟨us⟩ elem)):=by
      have O3:¬ len * esz > 2 ^ 24:=by omega
      by_cases h0:len * esz=0
      ·have wj:len=0:=by
        rcases aa5.1 h0 with h0|h0 <;> omega
       subst wj;have u1':Instr.fill (fun i=>some (i * esz,esz)) #[] (parts.toList.map fun x=>(x.1,a.eval x.2))=some ⟨us⟩:=by simpa using u1
       simp only [aaQ,aao,run_underlying e2,aal,run_sizeOf w f1,f2];simp only [abb,gt_iff_lt,Nat.not_lt_zero,if_false,if_true,aao,aap,aal,T2];have EU:∀ f:Nat→Value,Array.map f (aaT 0)=#[]:=fun f=>by simp
       simp only [EU,u1',newRow,aao,run_newObj,aal,aap];rfl
      ·simp only [aaQ,aao,run_underlying e2,aal,run_sizeOf w f1,f2];rw [if_neg O3,if_neg h0];simp only [aao,aap,aal,iY w f1 lF,T2,kz,u1,newRow,run_newObj];rfl
     exact ⟨esz,us,elem,by simp only [execOp,ho,aao,bp,aal,aap],u2,u3,i,ag,pK,_,hi,hk⟩
   ·cases hv
  ·cases hv
 ·cases hv
theorem yj (h:aY E R w β s a) (t:TypeId) (len:Nat) (parts:Array (Nat × Operand)) (ho:o.op=.buildSlice t len parts) {v:AV} (hv:cG E s t len parts.toList=some v) :
  bQ E R w β s a o (s.put o.dst (.v v)):=by
 obtain ⟨es,esz,us,elem,rfl,bp,g2,hlen,u2,u3,_⟩:=j7 h t len parts ho hv;have e:=Dy (R:=R) (w:=w) h.g.wf (.cells ⟨us⟩ elem);refine ⟨_,.slice (some ⟨w.heap.size,0,none⟩) len len,_,R.Xy w.heap.size,β,bp,.inl rfl,(h.Xy (.cells ⟨us⟩ elem)).put o.dst ?_,by rw [bf]; exact Mt h _⟩;refine Rel.list (mB g2 (fN.make (u2.mono e) u3 (fun j x hx=>?_) (fun j _=>.inr rfl))) hlen.symm (aaq _) rfl;rw [kY (heap_alloc_new w _)];simpa using hx
theorem wo (h:aY E R w β s a) (t:TypeId) (len:Nat) (parts:Array (Nat × Operand)) (ho:o.op=.buildSlice t len parts) {cs:List AV} (hv:mc E s t len parts.toList=some cs) {i:TI} (hi:E.ti t=some i) {el:TypeId} {esz eb:Nat} {ag:Bool} {z:Option AV} (hk:i.k=.sl el esz ag eb z) :
  bQ E R w β s a o ((s.eF (.row cs el)).put o.dst (.v (.jV s.G.length 0 esz len len))):=by
 obtain ⟨T4,us,elem,bp,u2,u3,i',ag',Xz,z',qP,iZ⟩:=yi h t len parts ho hv;rw [hi] at qP;cases qP;rw [hk] at iZ;cases iZ;have e:=iG (R:=R) (w:=w) h.g.wf (.cells ⟨us⟩ el) (.bE w.heap.size);have ia:iE (R.add (.bE w.heap.size)) (w.alloc (.cells ⟨us⟩ el)) (.row cs el) (.bE w.heap.size):=
  ⟨_,heap_alloc_new w _,u2.mono e,u3,fun o' hi=>by have:=h.g.wf _ _ hi; omega⟩
 exact ⟨_,_,_,R.add (.bE w.heap.size),β,bp,.inl rfl,(h.mK _ _ _ (by exact fun _ h=>h) ia).put o.dst (x:=.v (.jV s.G.length 0 esz len len)) (Rel.jV (gV h _) (aaq _)),by rw [bf]; exact dy h _ _ (by exact fun _ h=>h)⟩
theorem wq (h:aY E R w β s a) (t:TypeId) (len:Nat) (parts:Array (Nat × Operand)) (ho:o.op=.buildSlice t len parts) {k:LK} {esz:Nat} {es:List AV} (hv:cG E s t len parts.toList=some (.list k esz es)) {i:TI} (hi:E.ti t=some i) {el:TypeId} {bh eb:Nat} {ag:Bool} {z:Option AV} (hk:i.k=.sl el bh ag eb z) :
  bQ E R w β s a o ((s.eF (.row (an es) el)).put o.dst (.v (.jV s.G.length 0 esz len len))):=by
 obtain ⟨es',T4,us,elem,Yi,bp,g2,hlen,u2,u3,i',ag',Xz,z',qP,iZ⟩:=j7 h t len parts ho hv;cases Yi;rw [hi] at qP;cases qP;rw [hk] at iZ;cases iZ;have e:=iG (R:=R) (w:=w) h.g.wf (.cells ⟨us⟩ el) (.bE w.heap.size);have ia:iE (R.add (.bE w.heap.size)) (w.alloc (.cells ⟨us⟩ el)) (.row (an es) el) (.bE w.heap.size):=
  ⟨_,heap_alloc_new w _,u2.mono e,u3,fun o' hi=>by have:=h.g.wf _ _ hi; omega⟩
 exact ⟨_,_,_,R.add (.bE w.heap.size),β,bp,.inl rfl,(h.mK _ _ _ (by exact fun _ h=>h) ia).put o.dst (x:=.v (.jV s.G.length 0 esz len len)) (Rel.jV (gV h _) (aaq _)),by rw [bf]; exact dy h _ _ (by exact fun _ h=>h)⟩
end ops
end Go.Am
namespace Go.Am
open Go
section ops
variable {E:Env} {R:ai} {w:World} {β:Nat→Nat} {s:St} {a:Act} {o:Oper}
def T5 (R:ai) (w:World) (β:Nat→Nat):Option SV→Option Value→Prop
 |none,none=>True
 |some x,some c=>qJ R w β x c
 |_,_=>False
theorem Cr {y y' n:Nat} {x:SV} {c:Value} (hx:qJ R w β x c) (hb:zj y x=some (true,n)) (hy:y≤y') (code:BoundsCode) :
  (aa2 c y' code).run E.P w=.ok n w∧n≤y:=by
 unfold zj at hb;split at hb
 ·rename_i k m;injection hb with hb;injection hb with h1 h2;subst h2;obtain ⟨h0,h3⟩:=of_decide_eq_true h1;have yg:Rel R w (.int k m) c:=hx;cases yg;exact ⟨run_sliceBound (P:=E.P) w k m y' code h0 (by omega),by omega⟩
 ·cases hb
theorem eS (isS:Bool) {len cap l h:Nat} (ED:len≤cap) {lo hi:Option SV} {lv hv:Option Value} (hl:T5 R w β lo lv) (hh:T5 R w β hi hv) (hb:Dp len lo hi=some (true,l,h)) :
  (Instr.sliceBounds isS len cap lv hv none).run E.P w=.ok (l,h,cap) w∧l≤h∧h≤len:=by
 unfold Dp at hb;split at hb
 ·cases hb
 ·rename_i c1 h' jS;split at hb
  ·cases hb
  ·rename_i c2 l' T6;injection hb with hb;injection hb with hc hb;injection hb with e1 e2;subst e1; subst e2;simp only [aaN] at hc;obtain ⟨rfl,rfl⟩:=hc;have H:∃ _:True,(match hv with | some v=>aa2 v cap (if isS=true then .sliceAcap else .sliceAlen) | none=>pure len).run E.P w=.ok h' w∧h'≤len:=by
    refine ⟨trivial,?_⟩;cases hi with
    |none=>cases hv with
     |none=>simp at jS; subst jS; exact ⟨rfl,aaq _⟩
     |some v=>exact hh.elim
    |some x=>cases hv with
     |none=>exact hh.elim
     |some v=>exact Cr (E:=E) hh jS ED _
   have L:∃ _:True,(match lv with | some v=>aa2 v h' .sliceB | none=>pure 0).run E.P w=.ok l' w∧l'≤h':=by
    refine ⟨trivial,?_⟩;cases lo with
    |none=>cases lv with
     |none=>simp at T6; subst T6; exact ⟨rfl,Nat.zero_le _⟩
     |some v=>exact hl.elim
    |some x=>cases lv with
     |none=>exact hl.elim
     |some v=>exact Cr (E:=E) hl T6 (aaq _) _
   obtain ⟨_,H1,H2⟩:=H;obtain ⟨_,L1,L2⟩:=L;refine ⟨?_,L2,H2⟩;cases hv <;> cases lv <;> simp_all [Instr.sliceBounds]
theorem uB (h:aY E R w β s a) {x:Option Operand} {y:Option SV} (hx:nN E s.ab x=some y):T5 R w β y (x.map a.eval):=by
 cases x with
 |none=>simp [nN] at hx; subst hx; trivial
 |some x=>simp [nN] at hx; subst hx; exact aV h x
theorem rk {α:Type} {l:List α} {lo hi:Nat} (h:hi≤l.length):(kv lo hi l).length=hi - lo:=by
 simp [kv];omega
theorem BP (l:List UInt8) (lo hi:Nat):(⟨⟨l⟩⟩:ByteArray).extract lo hi=⟨⟨kv lo hi l⟩⟩:=by
 apply ByteArray.ext;rw [ByteArray.data_extract];apply aa1;simp [List.extract_eq_take_drop,kv,List.drop_take]
theorem I2 {ag:Bool} {b sz:Nat} (eR:(ag || Nat.beq sz 1)=true):∀ (n:Nat) {cs:List AV} {o:Nat},fN R w b o cs→n * sz≤cs.length→allFit (GU ag) (jn ag sz n cs)=true→iW R w b o sz (jn ag sz n cs)
 |0,_,_,_,_,_=>.nil
 |n+1,cs,o,hc,hl,hf=>by
  simp only [jn,allFit,aaN] at hf;obtain ⟨yk,hf2⟩:=hf;unfold GU at yk;simp only [aaN] at yk;obtain ⟨⟨h1,h2⟩,h3⟩:=yk;have hle:sz≤cs.length:=by rw [aaV] at hl; omega
  have oJ:(X9 ag (cs.take sz)).cells=cs.take sz:=by
   cases ag with
   |true=>rfl
   |false=>
    have O2:sz=1:=by simpa using eR
    subst O2
    match cs,hle with
    |a :: cs,_=>
     show AV.cells a=[a];have ho:a.one=true:=by simpa [X9,fa] using h2
     cases a <;> first | rfl | simp [AV.one] at ho
  obtain ⟨vs,k1,k2,k3,k4⟩:=hc.get;have hA:fN R w b o (cs.take sz):=fN.make (k1.take sz) (fun v hv=>k2 v (aa9 hv)) (fun j v hv=>k3 j v (by
   rw [aaZ] at hv;split at hv
   ·exact hv
   ·cases hv)) (fun j hj=>k4 j (by rw [List.length_take] at hj; omega))
  exact .cons (by rw [oJ,List.length_take,Nat.min_eq_left hle]) h1 h3 (by rw [oJ]; exact hA) (I2 eR n (hc.drop sz) (by rw [List.length_drop]; rw [aaV] at hl; omega) hf2)
theorem sV (ag:Bool) (sz:Nat):∀ (n:Nat) (cs:List AV),(jn ag sz n cs).length=n
 |0,_=>rfl
 |n+1,cs=>by simp [jn,sV ag sz n]
theorem Hf (h:aY E R w β s a) (t:TypeId) (x:Operand) (lo hi:Option Operand) (ho:o.op=.slice t x lo hi none) {l h':Option SV} (hl:nN E s.ab lo=some l) (hh:nN E s.ab hi=some h') {v:AV} (hv:Dq E t (bG E s.ab x) l h' none=some (true,v)) :
  bQ E R w β s a o (s.put o.dst (.v v)):=by
 have rx:=aV h x;have rl:=uB h hl;have rh:=uB h hh;unfold Dq at hv;split at hv
 ·rename_i i qP hmx;obtain ⟨hU,u,e1,e2,e3,e4,e5,e6⟩:=ck E qP;split at hv
  ·-- a string
   rename_i bs hk hx;rw [hx] at rx;have dW:Rel R w (.str bs) (a.eval x):=rx;generalize fO:a.eval x=xv at dW;cases dW;rw [hk] at e5;have:=mL e5;subst this;split at hv
   ·rename_i c p q hb;injection hv with hv;injection hv with h1 h2;subst h1; subst h2;obtain ⟨k1,k2,k3⟩:=eS (E:=E) false (aaq _) rl rh hb;refine au h (c:=.string ⟨⟨kv p q bs⟩⟩) ?_ (Rel.str _);rw [← BP];simp only [execOp,ho,aaL,aao,run_underlying e2,aal,aaO,fO,aas,Option.isSome_none,Bool.false_eq_true,if_false,size_bytes,k1,aap]
   ·cases hv
  ·-- a list
   rename_i elem esz ag pK z k sz es hk hx;rw [hx] at rx;rw [hk] at e5;obtain ⟨ie,ue,rfl,f1,f2,f3,f4,f5,f6⟩:=dq e5;split at hv
   ·rename_i eR;split at hv
    ·rename_i c p q hb;injection hv with hv;injection hv with h1 h2;subst h1; subst h2;have dW:Rel R w (.list k sz es) (a.eval x):=rx;generalize fO:a.eval x=xv at dW;cases dW with
     |jZ=>
      obtain ⟨k1,k2,k3⟩:=eS (E:=E) true (aaq _) rl rh hb;simp only [aaI,aaR] at k3;subst k3;have:p=0:=by omega
      subst this;refine au h (c:=.slice none 0 0) ?_ ?_
      ·simp only [execOp,ho,aaL,aao,run_underlying e2,aal,aaO,fO,aas];simp only [aaI] at k1;simp [k1,run_sizeOf w f1]
      ·exact Rel.jZ
     |jN=>
      obtain ⟨k1,k2,k3⟩:=eS (E:=E) true (aaq _) rl rh hb;simp only [aaI,aaR] at k3;subst k3;have:p=0:=by omega
      subst this;refine au h (c:=.slice none 0 0) ?_ ?_
      ·simp only [execOp,ho,aaL,aao,run_underlying e2,aal,aaO,fO,aas];simp only [aaI] at k1;simp [k1,run_sizeOf w f1]
      ·exact Rel.jN
     | @oG _ ad=>
      obtain ⟨k1,k2,k3⟩:=eS (E:=E) true (aaq _) rl rh hb;simp only [aaI,aaR] at k3;subst k3;have:p=0:=by omega
      subst this;refine au h (c:=.slice (some ad) 0 0) ?_ ?_
      ·simp only [execOp,ho,aaL,aao,run_underlying e2,aal,aaO,fO,aas];simp only [aaI] at k1;simp [k1,run_sizeOf w f1]
      ·exact Rel.oG
     |me h0 h00=>
      obtain ⟨k1,k2,k3⟩:=eS (E:=E) true (aaq _) rl rh hb;simp only [aaI,aaR] at k3;subst k3;have:p=0:=by omega
      subst this;refine au h (c:=.slice none 0 0) ?_ ?_
      ·simp only [execOp,ho,aaL,aao,run_underlying e2,aal,aaO,fO,aas];simp only [aaI] at k1;simp [k1,run_sizeOf w f1]
      ·exact Rel.jN
     |mJ h0 h00=>
      obtain ⟨k1,k2,k3⟩:=eS (E:=E) true (aaq _) rl rh hb;simp only [aaI,aaR] at k3;subst k3;have:p=0:=by omega
      subst this;refine au h (c:=.slice none 0 0) ?_ ?_
      ·simp only [execOp,ho,aaL,aao,run_underlying e2,aal,aaO,fO,aas];simp only [aaI] at k1;simp [k1,run_sizeOf w f1]
      ·exact Rel.jN
     | @list _ _ _ b o' len cap hr hlen fj G9=>
      subst hlen;obtain ⟨k1,k2,k3⟩:=eS (E:=E) true fj rl rh hb;have Yj:es≠[]→sz=esz:=fun cq=>by
       simp only [Bool.or_eq_true] at eR;rcases eR with hc|hc
       ·exact aaK hc
       ·simp at hc; exact absurd hc cq
      have bp:(execOp a.eval o).run E.P w=.ok (.value (.slice (if cap=p then some ⟨b,o',none⟩ else some ⟨b,o'+p * esz,none⟩) (q - p) (cap - p))) w:=by
       simp only [execOp,ho,aaL,aao,run_underlying e2,aal,aaO,fO,aas,k1,run_sizeOf w f1,f2,aap,aaW,b9]
      have xq:∀ b2 o2,Ds R (match k with | .nil=>LK.nil | .full=>(match h' with | none=>LK.full | some _=>LK.gQ) | _=>LK.gQ) b2 o2 (q - p) (cap - p):=by
       intro b2 o2;cases k with
       |nil=>exact G9.elim
       |gQ=>trivial
       |own id=>trivial
       |aX id j=>trivial
       |full=>
        have hc:cap=es.length:=G9;cases h' with
        |some _=>trivial
        |none=>
         have hq:q=es.length:=by
          unfold Dp at hb;simp only at hb;split at hb
          ·cases hb
          ·injection hb with hb;injection hb with _ hb;injection hb with _ hb;exact hb.symm
         show cap - p=q - p;omega
      by_cases Pz:cap=p
      ·refine au h (c:=.slice (some ⟨b,o',none⟩) (q - p) (cap - p)) (by rw [bp,if_pos Pz]) ?_;have he:kv p q es=[]:=List.eq_nil_of_length_eq_zero (by rw [rk k3]; omega);exact Rel.list (by rw [he]; exact .nil) (by rw [rk k3]) (by omega) (xq _ _)
      ·refine au h (c:=.slice (some ⟨b,o'+p * esz,none⟩) (q - p) (cap - p)) (by rw [bp,if_neg Pz]) ?_;refine Rel.list ?_ (by rw [rk k3]) (by omega) (xq _ _);by_cases cq:es=[]
       ·subst cq;simp [kv];exact .nil
       ·have:=Yj cq;subst this;exact we p (wg q hr)
    ·cases hv
   ·cases hv
  ·-- a heap slice
   rename_i elem esz ag pK z id off sz len cap hk hx;rw [hx] at rx;rw [hk] at e5;obtain ⟨ie,ue,rfl,f1,f2,f3,f4,f5,f6⟩:=dq e5;split at hv
   ·rename_i eR;have eR:=aaK eR;subst eR;split at hv
    ·rename_i c p q hb;injection hv with hv;injection hv with h1 h2;subst h1; subst h2;have dW:Rel R w (.jV id off sz len cap) (a.eval x):=rx;generalize fO:a.eval x=xv at dW;cases dW with
     | @jV _ _ _ _ _ b hbk fj=>
      obtain ⟨k1,k2,k3⟩:=eS (E:=E) true fj rl rh hb;refine au h (c:=.slice (some ⟨b,bif Nat.beq cap p then off else off+p * sz,none⟩) (q - p) (cap - p)) ?_ (Rel.jV hbk (by omega));have hb:(bif Nat.beq cap p then off else off+p * sz)=if cap=p then off else off+p * sz:=by
       by_cases e:cap=p
       ·rw [if_pos e,e,show Nat.beq p p=true from Nat.beq_refl p]; rfl
       ·rw [if_neg e];cases hq:Nat.beq cap p with
        |true=>exact absurd (aaK hq) e
        |false=>rfl
      rw [hb];simp only [execOp,ho,aaL,aao,run_underlying e2,aal,aaO,fO,aas,k1,run_sizeOf w f1,f2,aap,aaW,b9];split <;> rfl
    ·cases hv
   ·cases hv
  ·-- a slice that grows
   rename_i elem esz ag pK z id f' off sz len hk hx;rw [hx] at rx;rw [hk] at e5;obtain ⟨ie,ue,rfl,f1,f2,f3,f4,f5,f6⟩:=dq e5;split at hv
   ·rename_i eR;have eR:=aaK eR;subst eR;split at hv
    ·rename_i c p q hb;injection hv with hv;injection hv with h1 h2;subst h1; subst h2;have dW:Rel R w (.de id f' off sz len) (a.eval x):=rx;generalize fO:a.eval x=xv at dW;cases dW with
     |jO h0 h00=>
      obtain ⟨k1,k2,k3⟩:=eS (E:=E) true (aaq _) rl rh hb;simp only [aaR] at k3;subst k3;have:p=0:=by omega
      subst this;refine au h (c:=.slice none 0 0) ?_ ?_
      ·simp only [execOp,ho,aaL,aao,run_underlying e2,aal,aaO,fO,aas];simp [k1,run_sizeOf w f1]
      ·exact Rel.jO h0 h00
     | @de _ _ _ _ _ cap b o' ro ba dG fj=>
      obtain ⟨k1,k2,k3⟩:=eS (E:=E) true fj rl rh hb;have bp:(execOp a.eval o).run E.P w=.ok (.value (.slice (if cap=p then some ⟨b,o',none⟩ else some ⟨b,o'+p * sz,none⟩) (q - p) (cap - p))) w:=by
       simp only [execOp,ho,aaL,aao,run_underlying e2,aal,aaO,fO,aas,k1,run_sizeOf w f1,f2,aap,aaW,b9]
      have hgs:∀ o2,(o2=o'+p * sz∨cap=p)→Km b o2 f' (off+p) sz (cap - p) ro:=fun o2 h2=>by
       cases ro with
       |none=>trivial
       |a8=>exact dG.elim
       |bE _=>exact dG.elim
       |aX _=>exact dG.elim
       |tok f1 b1 c1=>
        refine ⟨dG.1,fun e=>?_⟩;obtain ⟨q1,q2,q3⟩:=dG.2 e;refine ⟨q1,by omega,?_⟩;rcases h2 with h2|h2
        ·rcases q3 with q3|q3
         ·exact .inl (by rw [h2,q3,aaX])
         ·exact .inr (by omega)
        ·exact .inr (by omega)
      by_cases Pz:cap=p
      ·exact au h (c:=.slice (some ⟨b,o',none⟩) (q - p) (cap - p)) (by rw [bp,if_pos Pz]) (Rel.de ba (hgs _ (.inr Pz)) (by omega))
      ·exact au h (c:=.slice (some ⟨b,o'+p * sz,none⟩) (q - p) (cap - p)) (by rw [bp,if_neg Pz]) (Rel.de ba (hgs _ (.inl rfl)) (by omega))
    ·cases hv
   ·cases hv
  ·-- an array that never changes again
   rename_i len esz ag cs hk hx;rw [hx] at rx;rw [hk] at e5;obtain ⟨e,ie,ue,rfl,f1,f2,f3,f4⟩:=qZ e5;split at hv
   ·split at hv
    ·rename_i bI;simp only [aaN] at bI;obtain ⟨⟨⟨c1,c2⟩,c3⟩,c4⟩:=bI;injection hv with hv;injection hv with _ h2;subst h2;have dW:Rel R w (.ep cs) (a.eval x):=rx;generalize fO:a.eval x=xv at dW;cases dW with
     | @ep _ b o' hr=>
     obtain ⟨k1,_,_⟩:=eS (E:=E) (w:=w) (R:=R) (β:=β) (l:=0) (h:=len) false (aaq len) rl rh rfl;refine au h (c:=.slice (some ⟨b,o',none⟩) len len) ?_ (Rel.list (I2 c3 len hr (aaM c1) c4) (sV _ _ _ _).symm (aaq _) rfl);simp only [execOp,ho,aaL,aao,run_underlying e2,aal,fO,Instr.sureAddr,aas,k1,run_sizeOf w f1,f2,aap];by_cases wj:len=0
     ·subst wj;simp
     ·simp [wj,b9]
    ·cases hv
   ·cases hv
  ·cases hv
 ·cases hv
theorem Dz (h:aY E R w β s a) (t:TypeId) (ho:o.op=.makeMap t none):bQ E R w β s a o ((s.eF (.map [])).put o.dst (.v (.map s.G.length))):=by
 have ia:iE (R.add (.bE w.heap.size)) (w.alloc (.map #[] 0)) (.map []) (.bE w.heap.size):=⟨#[],0,heap_alloc_new w _,trivial,rfl,fun i e he=>by simp at he⟩;refine ⟨_,.map (some w.heap.size),w.alloc (.map #[] 0),R.add (.bE w.heap.size),β,?_,.inl rfl,(h.mK (.map #[] 0) (.map []) (.bE w.heap.size) (by exact fun _ h=>h) ia).put o.dst (x:=.v (.map s.G.length)) (Rel.map (gV h _)),by rw [bf]; exact dy h _ _ (by exact fun _ h=>h)⟩;simp only [execOp,ho,Instr.makeMap,aas,aao,run_newObj,aal,aap];rfl
theorem oK (h:aY E R w β s a) (t:TypeId) (x y:Operand) (ho:o.op=.makeSlice t x y) {i:TI} (hi:E.ti t=some i) {k k':IntKind} {n m:Int} (hx:bG E s.ab x=.v (.int k n)) (hy:bG E s.ab y=.v (.int k' m))
  {elem esz pK:Nat} {ag:Bool} {z:AV} (hk:i.k=.sl elem esz ag pK (some z)) (hz:z.cells.length=esz) (BH:1≤esz) (mg:z.aR=true) (hc:0≤n∧n≤m∧m≤140737488355328∧m * pK≤140737488355328) :
  ∃ us,aL R w (an (aav m.toNat z)) us∧(∀ v∈us,v.oneCell'=true)∧(execOp a.eval o).run E.P w=.ok (.value (.slice (some ⟨w.heap.size,0,none⟩) n.toNat m.toNat)) (w.alloc (.cells ⟨us⟩ elem)):=by
 have rx:=aV h x;have ry:=aV h y;rw [hx] at rx;rw [hy] at ry;have dW:Rel R w (.int k n) (a.eval x):=rx;have qQ:Rel R w (.int k' m) (a.eval y):=ry;generalize fO:a.eval x=xv at dW;generalize Xw:a.eval y=yv at qQ;cases dW;cases qQ;obtain ⟨c1,c2,c3,c4⟩:=hc;obtain ⟨hU,u,e1,e2,e3,e4,e5,e6⟩:=ck E hi;rw [hk] at e5;obtain ⟨ie,ue,rfl,f1,f2,f3,f4,f5,f6⟩:=dq e5;obtain ⟨zc,lF,BO⟩:=dK f6;have SB:=BO R w;obtain ⟨d1,d2⟩:=Rel.cells SB mg;have sQ:zc.cells.size=esz:=by rw [← hz,d1.length]; simp
 obtain ⟨z1,z2⟩:=pf SB mg m.toNat;have kz:((aaT (m.toNat * esz)).map fun i=>zc.cells[i % zc.cells.size]!)=⟨(aav m.toNat zc.cells.toList).flatten⟩:=by
  apply aa1;rw [← sQ];exact rb zc.cells m.toNat
 have wn:IntKind.i64.wrap n=n:=IntWalk.i64_in n (by omega);have wm:IntKind.i64.wrap m=m:=IntWalk.i64_in m (by omega);have bp:(aa6 t (.int k n) (.int k' m)).run E.P w=.ok (.slice (some ⟨w.heap.size,0,none⟩) n.toNat m.toNat) (w.alloc (.cells ⟨(aav m.toNat zc.cells.toList).flatten⟩ elem)):=by
  have hby:(ie.bytes:Int) * m≤281474976710656:=by rw [f3,Int.mul_comm]; omega
  have Yk:¬ 281474976710656 < (ie.bytes:Int) * m:=by omega
  have h1:¬ m < 0:=by omega
  have h2:¬ n < 0:=by omega
  have h3:¬ m < n:=by omega
  have LU:(typeInfo elem).run E.P w=.ok ie w:=by simp [typeInfo,f1]
  by_cases h0:m.toNat * esz=0
  ·have hm0:m.toNat=0:=by
    rcases aa5.1 h0 with h0|h0 <;> omega
   have EU:∀ f:Nat→Value,Array.map f (aaT 0)=#[]:=fun f=>by simp
   simp [aa6,run_underlying e2,asInt,asIntOf,LU,wn,wm,h1,h2,h3,Yk,run_sizeOf w f1,f2,hm0,newRow];rw [EU]
  ·simp [aa6,run_underlying e2,asInt,asIntOf,LU,wn,wm,h1,h2,h3,Yk,run_sizeOf w f1,f2,h0,iY w f1 lF,newRow];rw [← kz]
 refine ⟨_,z1,z2,?_⟩;simp only [execOp,ho,fO,Xw,aao,bp,aal,aap]
theorem zz (h:aY E R w β s a) (t:TypeId) (x y:Operand) (ho:o.op=.makeSlice t x y) {i:TI} (hi:E.ti t=some i) {k k':IntKind} {n m:Int} (hx:bG E s.ab x=.v (.int k n)) (hy:bG E s.ab y=.v (.int k' m))
  {elem esz pK:Nat} {ag:Bool} {z:AV} (hk:i.k=.sl elem esz ag pK (some z)) (hz:z.cells.length=esz) (BH:1≤esz) (mg:z.aR=true) (hc:0≤n∧n≤m∧m≤140737488355328∧m * pK≤140737488355328) :
  bQ E R w β s a o ((s.eF (.row (an (aav m.toNat z)) elem)).put o.dst (.v (.jV s.G.length 0 esz n.toNat m.toNat))):=by
 obtain ⟨us,z1,z2,bp⟩:=oK h t x y ho hi hx hy hk hz BH mg hc;have e:=iG (R:=R) (w:=w) h.g.wf (.cells ⟨us⟩ elem) (.bE w.heap.size);have ia:iE (R.add (.bE w.heap.size)) (w.alloc (.cells ⟨us⟩ elem)) (.row (an (aav m.toNat z)) elem) (.bE w.heap.size):=
  ⟨_,heap_alloc_new w _,z1.mono e,z2,fun o' hi=>by have:=h.g.wf _ _ hi; omega⟩
 exact ⟨_,.slice (some ⟨w.heap.size,0,none⟩) n.toNat m.toNat,_,R.add (.bE w.heap.size),β,bp,.inl rfl,(h.mK _ _ (.bE w.heap.size) (by exact fun _ h=>h) ia).put o.dst (x:=.v (.jV s.G.length 0 esz n.toNat m.toNat)) (Rel.jV (gV h _) (by omega)),by rw [bf]; exact dy h _ _ (by exact fun _ h=>h)⟩
end ops
end Go.Am
namespace Go.Am
open Go
section ops
variable {E:Env} {R:ai} {w:World} {β:Nat→Nat} {s:St} {a:Act} {o:Oper}
theorem mM (x:Array Operand) (f:Operand→Value):x.map f=⟨x.toList.map f⟩:=aa1 (by simp)
theorem dL {b:Builtin} {args:Array Operand} {tys:Array TypeId} (ho:o.op=.call { callee:=.builtin b,args:=args,argTypes:=tys }) (vs:List Value) (hv:args.toList.map a.eval=vs) :
  (execOp a.eval o).run E.P w=(builtin b tys o.type (args.map fun | .const _=>true | _=>false) ⟨vs⟩).run E.P w:=by
 simp only [execOp,ho,resolve,aao,aap,aal,invoke,mM args a.eval,hv];rfl
theorem eL.length:∀ {l:List (AV × AV)} {es:List MapEntry},eL R w l es→l.length=es.length
 |[],[],_=>rfl
 |_ :: _,_ :: _,h=>by simp [eL.length h.2.2]
 |[],_ :: _,h=>h.elim
 |_ :: _,[],h=>h.elim
theorem Mu (h:aY E R w β s a) {args:Array Operand} {tys:List TypeId} (ho:o.op=.call { callee:=.builtin .len,args:=args,argTypes:=⟨tys⟩ }) {l:List AV} (hl:nL E s.ab args.toList=some l) {s':St} (hs:cu E s o.dst .len l tys=some (true,s')) :
  bQ E R w β s a o s':=by
 have hr:=fP h hl;generalize hv:args.toList.map a.eval=vs at hr;have hx:=dL (E:=E) (w:=w) ho vs hv;unfold cu at hs;split at hs <;> first | (rename_i h1; cases h1; done) | skip
 ·rename_i x;cases hr with
  |cons h0 h1=>
  cases h1;split at hs
  ·rename_i t tl;split at hs
   ·rename_i i hi;obtain ⟨hU,u,e1,e2,e3,e4,e5,e6⟩:=ck E hi;split at hs
    ·rename_i bs hk;cases hs;cases h0;rw [hk] at e5;have:=mL e5;subst this;refine au h (c:=.int .i64 bs.length) ?_ (Rel.int _ _);rw [hx];simp [builtin,aax,run_underlying e2,goInt,size_bytes]
    ·rename_i kk sz es hk;cases hs;rw [hk] at e5;obtain ⟨ie,ue,rfl,_⟩:=dq e5;refine au h (c:=.int .i64 es.length) ?_ (Rel.int _ _);rw [hx];cases h0 with
     |jZ=>simp [builtin,aax,run_underlying e2,goInt]
     |jN=>simp [builtin,aax,run_underlying e2,goInt]
     |oG=>simp [builtin,aax,run_underlying e2,goInt]
     |me=>simp [builtin,aax,run_underlying e2,goInt]
     |mJ=>simp [builtin,aax,run_underlying e2,goInt]
     |list _ hlen _ _=>subst hlen; simp [builtin,aax,run_underlying e2,goInt]
    ·rename_i id off sz len cap hk;cases hs;rw [hk] at e5;obtain ⟨ie,ue,rfl,_⟩:=dq e5;refine au h (c:=.int .i64 len) ?_ (Rel.int _ _);rw [hx];cases h0;simp [builtin,aax,run_underlying e2,goInt]
    ·rename_i id f' off sz len hk;cases hs;rw [hk] at e5;obtain ⟨ie,ue,rfl,_⟩:=dq e5;refine au h (c:=.int .i64 len) ?_ (Rel.int _ _);rw [hx];cases h0 <;> simp [builtin,aax,run_underlying e2,goInt]
    ·rename_i id j' sz len hk;cases hs;rw [hk] at e5;obtain ⟨ie,ue,rfl,_⟩:=dq e5;refine au h (c:=.int .i64 len) ?_ (Rel.int _ _);rw [hx];cases h0 <;> simp [builtin,aax,run_underlying e2,goInt]
    ·rename_i n esz ag hk;cases hs;rw [hk] at e5;obtain ⟨e,ie,ue,rfl,_⟩:=qZ e5;refine au h (c:=.int .i64 n) ?_ (Rel.int _ _);rw [hx];simp [builtin,aax,run_underlying e2,goInt]
    ·rename_i hk;cases hs;rw [hk] at e5;obtain ⟨rfl,_⟩:=o0 e5;refine au h (c:=.int .i64 0) ?_ (Rel.int _ _);rw [hx];cases h0;simp [builtin,aax,run_underlying e2,goInt]
    ·rename_i id hk;split at hs
     ·rename_i es hg;cases hs;rw [hk] at e5;obtain ⟨rfl,_⟩:=o0 e5;cases h0 with
      | @map _ b hb=>
      obtain ⟨aH,clock,g1,g2,g3⟩:=h.g.obj id _ _ hg hb;refine au h (c:=.int .i64 es.length) ?_ (Rel.int _ _);rw [hx];have ia:(getObj b).run E.P w=.ok (.map aH clock) w:=by simp [getObj,Sem.run,g1]
      simp [builtin,aax,run_underlying e2,goInt,ia,g2.length]
     ·cases hs
    ·cases hs
   ·cases hs
  ·cases hs
 ·cases hs
theorem I3 {b:Bool}:∀ {l:List AV} {x v:AV} {c:Value} {cs:List Value},Rel R w x c→aL R w l cs→Kh x l=some v→∃ c',(cs.foldlM Builtin.max2 c).run E.P w=.ok c' w∧Rel R w v c'
 |[],x,v,c,cs,hr,hl,hv=>by
  cases hl;simp only [Kh] at hv;cases hv;exact ⟨c,rfl,hr⟩
 |y :: l,x,v,c,cs,hr,hl,hv=>by
  cases hl with
  |cons hy hl=>
  unfold Kh at hv;split at hv
  ·rename_i jS; cases jS
  ·rename_i k n k' m l' jS;cases jS;split at hv
   ·rename_i hk;subst hk;cases hr;cases hy;obtain ⟨c',h1,h2⟩:=I3 (b:=b) (Rel.int k (if m > n then m else n)) hl hv;refine ⟨c',?_,h2⟩;simp only [aa3,aao,Builtin.max2,aap,aal];exact h1
   ·cases hv
  ·cases hv
theorem DA {b:Bool}:∀ {l:List AV} {x v:AV} {c:Value} {cs:List Value},Rel R w x c→aL R w l cs→GV x l=some v→∃ c',(cs.foldlM aa4 c).run E.P w=.ok c' w∧Rel R w v c'
 |[],x,v,c,cs,hr,hl,hv=>by
  cases hl;simp only [GV] at hv;cases hv;exact ⟨c,rfl,hr⟩
 |y :: l,x,v,c,cs,hr,hl,hv=>by
  cases hl with
  |cons hy hl=>
  unfold GV at hv;split at hv
  ·rename_i jS; cases jS
  ·rename_i k n k' m l' jS;cases jS;split at hv
   ·rename_i hk;subst hk;cases hr;cases hy;obtain ⟨c',h1,h2⟩:=DA (b:=b) (Rel.int k (if m < n then m else n)) hl hv;refine ⟨c',?_,h2⟩;simp only [aa3,aao,aa4,aap,aal];exact h1
   ·cases hv
  ·rename_i n m l' jS;cases jS;cases hr;cases hy;obtain ⟨c',h1,h2⟩:=DA (b:=b) (Rel.str (bif abc n m || n == m then n else m)) hl hv;refine ⟨c',?_,h2⟩;have e:(aa4 (.string ⟨⟨n⟩⟩) (.string ⟨⟨m⟩⟩)).run E.P w=.ok (.string ⟨⟨bif abc n m || n == m then n else m⟩⟩) w:=by
    simp only [aa4,Op.stringOp,aao,aap,aal];show Result.andThen ((asBool _).run E.P w) _=_;cases hb:(abc n m || n == m) <;> simp_all [asBool]
   simp only [aa3,aao,e,aal];exact h1
  ·cases hv
theorem Mw (h:aY E R w β s a) {args:Array Operand} {tys:Array TypeId} (ho:o.op=.call { callee:=.builtin .max,args:=args,argTypes:=tys }) {x v:AV} {l:List AV} (hl:nL E s.ab args.toList=some (x :: l)) (hm:Kh x l=some v) :
  bQ E R w β s a o (s.put o.dst (.v v)):=by
 have hr:=fP h hl;generalize hv:args.toList.map a.eval=vs at hr;have hx:=dL (E:=E) (w:=w) ho vs hv;cases hr with
 |cons h0 h1=>
 obtain ⟨c',k1,k2⟩:=I3 (E:=E) (b:=true) h0 h1 hm;refine au h (c:=c') ?_ k2;rw [hx];simp [builtin,Builtin.max_,k1]
theorem Mx (h:aY E R w β s a) {args:Array Operand} {tys:Array TypeId} (ho:o.op=.call { callee:=.builtin .min,args:=args,argTypes:=tys }) {x v:AV} {l:List AV} (hl:nL E s.ab args.toList=some (x :: l)) (hm:GV x l=some v) :
  bQ E R w β s a o (s.put o.dst (.v v)):=by
 have hr:=fP h hl;generalize hv:args.toList.map a.eval=vs at hr;have hx:=dL (E:=E) (w:=w) ho vs hv;cases hr with
 |cons h0 h1=>
 obtain ⟨c',k1,k2⟩:=DA (E:=E) (b:=true) h0 h1 hm;refine au h (c:=c') ?_ k2;rw [hx];simp [builtin,Builtin.min_,k1]
end ops
end Go.Am
namespace Go.Am
open Go
section ops
variable {E:Env} {R:ai} {w:World} {β:Nat→Nat} {s:St} {a:Act} {o:Oper}
def ai.upto (R:ai) (g n:Nat) (obj:List RO):ai:=⟨fun b o=>R.I b o∨(b=g∧o < n),obj⟩
theorem ar {l:List RO} {id i:Nat} {x r y:RO} (agf:nth l id=some y) (h:nth (ak l id x) i=some r):(i=id∧r=x)∨(i≠id∧nth l i=some r):=by
 rcases b8 h with ⟨rfl,rfl,_⟩|⟨cq,h⟩
 ·exact .inl ⟨rfl,rfl⟩
 ·exact .inr ⟨aa8 cq,h⟩
theorem Hg (wf:∀ b o,R.I b o→b < w.heap.size) (x:Obj) (n:Nat) (ro:RO):Ext R w (R.upto w.heap.size n (R.obj++[ro])) (w.drew.alloc x):=
 ⟨fun _ _ h=>.inl h,fun b o h=>bL (heap_alloc_old w.drew x b (wf b o h)) o,fun _ r h=>⟨r,bn h,cj.refl r⟩,.old fun b hb=>heap_alloc_old w.drew x b hb⟩
theorem Hh (wf:∀ b o,R.I b o→b < w.heap.size) (x:Obj) {n id m:Nat} {r0:RO} (hid:nth R.obj id=some r0) (b' c':Nat) (bW:cj r0 (.tok m b' c' 0)):Ext R w (R.upto w.heap.size n (ak R.obj id (.tok m b' c' 0))) (w.drew.alloc x):=
 ⟨fun _ _ h=>.inl h,fun b o h=>bL (heap_alloc_old w.drew x b (wf b o h)) o,fun i r h=>by
  by_cases e:id=i
  ·subst e;rw [hid] at h;cases h;exact ⟨_,aj hid,bW⟩
  ·exact ⟨r,by rw [ai.upto,aJ e]; exact h,cj.refl r⟩,.old fun b hb=>heap_alloc_old w.drew x b hb⟩
theorem aY.Ua (h:aY E R w β s a) {cur:Array Value} {elem:TypeId} {n sz cap:Nat} (hn:n≤cap) (hm:cap≤maxLen) (hs:cur.size=cap * sz) :
  aY E (R.upto w.heap.size (n * sz) (R.obj++[.tok n w.heap.size cap 0])) (w.drew.alloc (.cells cur elem)) β (s.eF (.tok n sz elem)) a ∧
  Step R w β s.boxes (R.upto w.heap.size (n * sz) (R.obj++[.tok n w.heap.size cap 0])) (w.drew.alloc (.cells cur elem)) β s.boxes:=by
 have e:=Hg (R:=R) (w:=w) h.g.wf (.cells cur elem) (n * sz) (.tok n w.heap.size cap 0);have old:∀ b,b < w.heap.size→(w.drew.alloc (.cells cur elem)).heap[b]?=w.heap[b]?:=fun b hb=>heap_alloc_old w.drew _ b hb
 have new:(w.drew.alloc (.cells cur elem)).heap[w.heap.size]?=some (.cells cur elem (0,0)):=heap_alloc_new w.drew _;have hI:∀ b o,b < w.heap.size→(R.upto w.heap.size (n * sz) (R.obj++[.tok n w.heap.size cap 0])).I b o→R.I b o:=fun b o hb hi=>by
  rcases hi with hi|⟨hi,_⟩
  ·exact hi
  ·omega
 refine ⟨⟨⟨by simp [St.eF,ai.upto,h.g.len],fun id g r h1 h2=>?_,fun i j ri rj b h1 h2 b1 b2=>?_,fun b o hi=>?_,fun g cs hg=>(h.g.dF g cs hg).mono e,by first | exact h.g.lo | exact aaU h.g.lo⟩,?_,h.t.mono e,h.n,h.d.mono e⟩,?_⟩
 ·rcases ah h2 with h2|⟨h3,rfl⟩
  ·have bW:=aU h2;rw [h.g.len] at bW;rcases ah h1 with h1|⟨h4,_⟩
   ·exact (h.g.obj id g r h1 h2).mono e (fun b hb=>old b (h.g.bT ⟨id,r,h2,hb⟩)) (fun b o hb=>hI b o (h.g.bT ⟨id,r,h2,hb⟩))
   ·omega
  ·rcases ah h1 with h1|⟨h4,rfl⟩
   ·have:=aU h1;rw [h3,h.g.len] at this;omega
   ·refine ⟨rfl,cur,new,hn,hm,by omega,fun o' rn hi=>?_⟩;rcases hi with hi|⟨_,hi⟩
    ·have:=h.g.wf _ _ hi;omega
    ·omega
 ·rcases ah h1 with g1|⟨h3,e1⟩
  ·rcases ah h2 with g2|⟨h4,e2⟩
   ·exact h.g.inj i j ri rj b g1 g2 b1 b2
   ·have:=h.g.bT ⟨i,ri,g1,b1⟩;rw [e2] at b2;simp [RO.has] at b2;omega
  ·rcases ah h2 with g2|⟨h4,e2⟩
   ·have:=h.g.bT ⟨j,rj,g2,b2⟩;rw [e1] at b1;simp [RO.has] at b1;omega
   ·omega
 ·rcases hi with hi|⟨rfl,_⟩
  ·have:=h.g.wf b o hi;simp;omega
  ·simp
 ·refine h.b.keep e (fun k cs hk=>old _ (h.ea (.inr ⟨k,cs,hk,rfl⟩))) (fun k cs o hk=>hI _ o (h.ea (.inr ⟨k,cs,hk,rfl⟩))) (fun k cs hk hl=>?_);rcases kZ (R:=R) (ro:=.tok n w.heap.size cap 0) hl with hl|hl
  ·exact hl
  ·have:=h.ea (.inr ⟨k,cs,hk,rfl⟩);simp [RO.has] at hl;omega
 ·refine ⟨e,rfl,rfl,rfl,by simp,fun b hb _=>old b hb,fun b hb ho=>?_,fun b o hi hb _=>hI b o hb hi⟩;rcases ho with ho|ho
  ·rcases kZ (R:=R) (ro:=.tok n w.heap.size cap 0) ho with ho|ho
   ·exact .inl ho
   ·simp [RO.has] at ho;omega
  ·exact .inr ho
theorem EV (wf:∀ b o,R.I b o→b < w.heap.size) (x:Obj) (n:Nat) (ro:RO):Ext R w (R.upto w.heap.size n (R.obj++[ro])) (w.alloc x):=
 ⟨fun _ _ h=>.inl h,fun b o h=>bL (heap_alloc_old w x b (wf b o h)) o,fun _ r h=>⟨r,bn h,cj.refl r⟩,.old fun b hb=>heap_alloc_old w x b hb⟩
theorem aY.PD (h:aY E R w β s a) {cur:Array Value} {elem:TypeId} {n sz cap:Nat} (hn:n≤cap) (hm:cap≤maxLen) (hs:cur.size=cap * sz) :
  aY E (R.upto w.heap.size (n * sz) (R.obj++[.tok n w.heap.size cap 0])) (w.alloc (.cells cur elem)) β (s.eF (.tok n sz elem)) a ∧
  Step R w β s.boxes (R.upto w.heap.size (n * sz) (R.obj++[.tok n w.heap.size cap 0])) (w.alloc (.cells cur elem)) β s.boxes:=by
 have e:=EV (R:=R) (w:=w) h.g.wf (.cells cur elem) (n * sz) (.tok n w.heap.size cap 0);have old:∀ b,b < w.heap.size→(w.alloc (.cells cur elem)).heap[b]?=w.heap[b]?:=fun b hb=>heap_alloc_old w _ b hb
 have new:(w.alloc (.cells cur elem)).heap[w.heap.size]?=some (.cells cur elem (0,0)):=heap_alloc_new w _;have hI:∀ b o,b < w.heap.size→(R.upto w.heap.size (n * sz) (R.obj++[.tok n w.heap.size cap 0])).I b o→R.I b o:=fun b o hb hi=>by
  rcases hi with hi|⟨hi,_⟩
  ·exact hi
  ·omega
 refine ⟨⟨⟨by simp [St.eF,ai.upto,h.g.len],fun id g r h1 h2=>?_,fun i j ri rj b h1 h2 b1 b2=>?_,fun b o hi=>?_,fun g cs hg=>(h.g.dF g cs hg).mono e,by first | exact h.g.lo | exact aaU h.g.lo⟩,?_,h.t.mono e,h.n,h.d.mono e⟩,?_⟩
 ·rcases ah h2 with h2|⟨h3,rfl⟩
  ·have bW:=aU h2;rw [h.g.len] at bW;rcases ah h1 with h1|⟨h4,_⟩
   ·exact (h.g.obj id g r h1 h2).mono e (fun b hb=>old b (h.g.bT ⟨id,r,h2,hb⟩)) (fun b o hb=>hI b o (h.g.bT ⟨id,r,h2,hb⟩))
   ·omega
  ·rcases ah h1 with h1|⟨h4,rfl⟩
   ·have:=aU h1;rw [h3,h.g.len] at this;omega
   ·refine ⟨rfl,cur,new,hn,hm,by omega,fun o' rn hi=>?_⟩;rcases hi with hi|⟨_,hi⟩
    ·have:=h.g.wf _ _ hi;omega
    ·omega
 ·rcases ah h1 with g1|⟨h3,e1⟩
  ·rcases ah h2 with g2|⟨h4,e2⟩
   ·exact h.g.inj i j ri rj b g1 g2 b1 b2
   ·have:=h.g.bT ⟨i,ri,g1,b1⟩;rw [e2] at b2;simp [RO.has] at b2;omega
  ·rcases ah h2 with g2|⟨h4,e2⟩
   ·have:=h.g.bT ⟨j,rj,g2,b2⟩;rw [e1] at b1;simp [RO.has] at b1;omega
   ·omega
 ·rcases hi with hi|⟨rfl,_⟩
  ·have:=h.g.wf b o hi;simp;omega
  ·simp
 ·refine h.b.keep e (fun k cs hk=>old _ (h.ea (.inr ⟨k,cs,hk,rfl⟩))) (fun k cs o hk=>hI _ o (h.ea (.inr ⟨k,cs,hk,rfl⟩))) (fun k cs hk hl=>?_);rcases kZ (R:=R) (ro:=.tok n w.heap.size cap 0) hl with hl|hl
  ·exact hl
  ·have:=h.ea (.inr ⟨k,cs,hk,rfl⟩);simp [RO.has] at hl;omega
 ·refine ⟨e,rfl,rfl,rfl,by simp,fun b hb _=>old b hb,fun b hb ho=>?_,fun b o hi hb _=>hI b o hb hi⟩;rcases ho with ho|ho
  ·rcases kZ (R:=R) (ro:=.tok n w.heap.size cap 0) ho with ho|ho
   ·exact .inl ho
   ·simp [RO.has] at ho;omega
  ·exact .inr ho
theorem wu (h:aY E R w β s a) (t:TypeId) (len:Nat) (parts:Array (Nat × Operand)) (ho:o.op=.buildSlice t len parts) {k:LK} {esz:Nat} {es:List AV} (hv:cG E s t len parts.toList=some (.list k esz es)) {i:TI} (hi:E.ti t=some i) {elem bh pK:Nat} {ag:Bool} {z:Option AV} (hk:i.k=.sl elem bh ag pK z) (hm:len≤65536) :
  bQ E R w β s a o ((s.eF (.tok len esz elem)).put o.dst (.v (.list (.own s.G.length) esz es))):=by
 obtain ⟨es',T4,us,Yl,Yi,bp,g2,hlen,u2,u3,i',ag',Xz,z',qP,iZ⟩:=j7 h t len parts ho hv;cases Yi;rw [hi] at qP;cases qP;rw [hk] at iZ;cases iZ;have Ym:us.length=len * esz:=by rw [← u2.length,dH g2,hlen]
 obtain ⟨r1,r2⟩:=h.PD (cur:=⟨us⟩) (elem:=elem) (n:=len) (sz:=esz) (cap:=len) (aaq _) (by simp [maxLen]; omega) (by simpa using Ym);refine ⟨_,.slice (some ⟨w.heap.size,0,none⟩) len len,_,_,β,bp,.inl rfl,r1.put o.dst (x:=.v (.list (.own s.G.length) esz es)) ?_,by rw [bf]; exact r2⟩;refine Rel.list (mB g2 (fN.make (u2.mono r2.ext) u3 (fun j x hx=>?_) (fun j hj=>.inr ⟨rfl,?_⟩))) hlen.symm (aaq _) ⟨.tok len w.heap.size len 0,gV h _,?_⟩
 ·rw [kY (heap_alloc_new w _)];simpa using hx
 ·rw [dH g2,hlen] at hj;omega
 ·exact ⟨aaq _,fun _=>⟨rfl,.inl rfl,rfl⟩⟩
theorem aY.My (h:aY E R w β s a) {cur:Array Value} {elem e0:TypeId} {n sz cap id f:Nat} {r0:RO} (hg:nth s.G id=some (.tok f sz e0)) (hid:nth R.obj id=some r0) (hf:∀ b c,cj r0 (.tok n b c 0)) (hn:n≤cap) (hm:cap≤maxLen) (hs:cur.size=cap * sz) :
  aY E (R.upto w.heap.size (n * sz) (ak R.obj id (.tok n w.heap.size cap 0))) (w.drew.alloc (.cells cur elem)) β (s.bq (ak s.G id (.tok n sz elem))) a ∧
  Step R w β s.boxes (R.upto w.heap.size (n * sz) (ak R.obj id (.tok n w.heap.size cap 0))) (w.drew.alloc (.cells cur elem)) β s.boxes:=by
 have e:=Hh (R:=R) (w:=w) (n:=n * sz) h.g.wf (.cells cur elem) hid w.heap.size cap (hf _ _);have old:∀ b,b < w.heap.size→(w.drew.alloc (.cells cur elem)).heap[b]?=w.heap[b]?:=fun b hb=>heap_alloc_old w.drew _ b hb
 have new:(w.drew.alloc (.cells cur elem)).heap[w.heap.size]?=some (.cells cur elem (0,0)):=heap_alloc_new w.drew _;have hI:∀ b o,b < w.heap.size→(R.upto w.heap.size (n * sz) (ak R.obj id (.tok n w.heap.size cap 0))).I b o→R.I b o:=fun b o hb hi=>by
  rcases hi with hi|⟨hi,_⟩
  ·exact hi
  ·omega
 have live:∀ b,b < w.heap.size→Live (R.upto w.heap.size (n * sz) (ak R.obj id (.tok n w.heap.size cap 0))) b→Live R b:=fun b hb hl=>by
  obtain ⟨i,r,h1,h2⟩:=hl;rcases ar hid h1 with ⟨_,rfl⟩|⟨_,h1⟩
  ·simp [RO.has] at h2;omega
  ·exact ⟨i,r,h1,h2⟩
 refine ⟨⟨⟨by simp [St.bq,ai.upto,h.g.len],fun i gg r h1 h2=>?_,fun i j ri rj b h1 h2 b1 b2=>?_,fun b o hi=>?_,fun g cs hg=>(h.g.dF g cs hg).mono e,by first | exact h.g.lo | exact aaU h.g.lo⟩,?_,h.t.mono e,h.n,h.d.mono e⟩,?_⟩
 ·rcases ar hid h2 with ⟨rfl,rfl⟩|⟨cq,h2⟩
  ·simp only [St.bq] at h1;rw [aj hg] at h1;cases h1;refine ⟨rfl,cur,new,hn,hm,by omega,fun o' rn hi=>?_⟩;rcases hi with hi|⟨_,hi⟩
   ·have:=h.g.wf _ _ hi;omega
   ·omega
  ·simp only [St.bq] at h1;rw [aJ (aa8 cq)] at h1;exact (h.g.obj i gg r h1 h2).mono e (fun b hb=>old b (h.g.bT ⟨i,r,h2,hb⟩)) (fun b o hb=>hI b o (h.g.bT ⟨i,r,h2,hb⟩))
 ·rcases ar hid h1 with ⟨g3,e1⟩|⟨g3,g1⟩
  ·rcases ar hid h2 with ⟨g4,e2⟩|⟨g4,g2⟩
   ·omega
   ·have:=h.g.bT ⟨j,rj,g2,b2⟩;rw [e1] at b1;simp [RO.has] at b1;omega
  ·rcases ar hid h2 with ⟨g4,e2⟩|⟨g4,g2⟩
   ·have:=h.g.bT ⟨i,ri,g1,b1⟩;rw [e2] at b2;simp [RO.has] at b2;omega
   ·exact h.g.inj i j ri rj b g1 g2 b1 b2
 ·rcases hi with hi|⟨rfl,_⟩
  ·have:=h.g.wf b o hi;simp;omega
  ·simp
 ·exact h.b.keep e (fun k cs hk=>old _ (h.ea (.inr ⟨k,cs,hk,rfl⟩))) (fun k cs o hk=>hI _ o (h.ea (.inr ⟨k,cs,hk,rfl⟩))) (fun k cs hk hl=>live _ (h.ea (.inr ⟨k,cs,hk,rfl⟩)) hl)
 ·refine ⟨e,rfl,rfl,rfl,by simp,fun b hb _=>old b hb,fun b hb ho=>?_,fun b o hi hb _=>hI b o hb hi⟩;rcases ho with ho|ho
  ·exact .inl (live b hb ho)
  ·exact .inr ho
theorem aY.PE (h:aY E R w β s a) {cur:Array Value} {news:List Value} {elem:TypeId} {n sz id f g c k:Nat} (hg:nth s.G id=some (.tok f sz elem)) (hid:nth R.obj id=some (.tok f g c k)) (hf:f < n) (hn:n≤c)
  (kA:w.heap[g]?=some (.cells cur elem (0,0))) (hs:cur.size=k+c * sz) (hm:c≤maxLen) (hl:f * sz+news.length=n * sz) :
  Ext R w (R.upto g (k+n * sz) (ak R.obj id (.tok n g c k))) (w.setRow g (cur.toList.take (k+f * sz)++news++cur.toList.drop (k+f * sz+news.length)).toArray) ∧
  aY E (R.upto g (k+n * sz) (ak R.obj id (.tok n g c k))) (w.setRow g (cur.toList.take (k+f * sz)++news++cur.toList.drop (k+f * sz+news.length)).toArray) β (s.bq (ak s.G id (.tok n sz elem))) a ∧
  Step R w β s.boxes (R.upto g (k+n * sz) (ak R.obj id (.tok n g c k))) (w.setRow g (cur.toList.take (k+f * sz)++news++cur.toList.drop (k+f * sz+news.length)).toArray) β s.boxes:=by
 obtain ⟨_,cur',SC,_,_,_,mN⟩:=h.g.obj id _ _ hg hid;rw [kA] at SC;cases SC;have hle:n * sz≤c * sz:=aaS _ hn;generalize pX:(cur.toList.take (k+f * sz)++news++cur.toList.drop (k+f * sz+news.length)).toArray=cur2;have old:∀ b,b≠g→(w.setRow g cur2).heap[b]?=w.heap[b]?:=fun b hb=>setRow_other w g b cur2 hb
 have new:(w.setRow g cur2).heap[g]?=some (.cells cur2 elem (0,0)):=setRow_heap w g cur cur2 elem (0,0) kA;have hlen:k+f * sz≤cur.toList.length:=by simp; omega
 have eR:cur2.size=k+c * sz:=by
  rw [← pX];simp;omega
 have wv:Live R g:=⟨id,_,hid,rfl⟩;have e:Ext R w (R.upto g (k+n * sz) (ak R.obj id (.tok n g c k))) (w.setRow g cur2):=by
  refine ⟨fun _ _ hi=>.inl hi,fun b o hi=>?_,fun i r hr=>?_,fun b r hb=>⟨r,(old b fun e=>by subst e; rw [kA] at hb; cases hb).trans hb,rfl,rfl,rfl,rfl,rfl⟩⟩
  ·by_cases hb:b=g
   ·subst hb;have ho:o < k+f * sz:=Nat.lt_of_not_le fun hle=>mN o hle hi
    simp only [World.cell?,new,kA];have:cur2[o]?=cur[o]?:=by
     rw [← pX,List.append_assoc];simp only [List.getElem?_toArray];rw [aa0 (by simp; omega),aaZ,if_pos ho,Array.getElem?_toList]
    simp [this]
   ·exact bL (old b hb) o
  ·by_cases ei:id=i
   ·subst ei;rw [hid] at hr;cases hr;exact ⟨_,aj hid,by omega,fun e=>by omega⟩
   ·exact ⟨r,by rw [ai.upto,aJ ei]; exact hr,cj.refl r⟩
 have hI:∀ b o,b≠g→(R.upto g (k+n * sz) (ak R.obj id (.tok n g c k))).I b o→R.I b o:=fun b o hb hi=>by
  rcases hi with hi|⟨hi,_⟩
  ·exact hi
  ·exact absurd hi hb
 have live:∀ b,Live (R.upto g (k+n * sz) (ak R.obj id (.tok n g c k))) b→Live R b:=fun b hl=>by
  obtain ⟨i,r,h1,h2⟩:=hl;rcases ar hid h1 with ⟨_,rfl⟩|⟨_,h1⟩
  ·exact ⟨id,_,hid,h2⟩
  ·exact ⟨i,r,h1,h2⟩
 have tH:∀ k cs,dR s.boxes k=some cs→β k≠g:=fun k cs hk eq=>(h.b.box k cs hk).2.2 (eq ▸ wv)
 refine ⟨e,⟨⟨by simp [St.bq,ai.upto,h.g.len],fun i gg r h1 h2=>?_,fun i j ri rj b h1 h2 b1 b2=>?_,fun b o hi=>?_,fun g cs hg=>(h.g.dF g cs hg).mono e,by first | exact h.g.lo | exact aaU h.g.lo⟩,?_,h.t.mono e,h.n,h.d.mono e⟩,?_⟩
 ·rcases ar hid h2 with ⟨rfl,rfl⟩|⟨cq,h2⟩
  ·simp only [St.bq] at h1;rw [aj hg] at h1;cases h1;refine ⟨rfl,cur2,new,hn,hm,eR,fun o' rn hi=>?_⟩;rcases hi with hi|⟨_,hi⟩
   ·exact mN o' (by have:=aaS sz (Nat.le_of_lt hf); omega) hi
   ·omega
  ·simp only [St.bq] at h1;rw [aJ (aa8 cq)] at h1;have Ub:∀ b,r.has b→b≠g:=fun b hb eq=>cq (h.g.inj i id _ _ b h2 hid hb (by rw [eq]; rfl))
   exact (h.g.obj i gg r h1 h2).mono e (fun b hb=>old b (Ub b hb)) (fun b o hb=>hI b o (Ub b hb))
 ·rcases ar hid h1 with ⟨g3,e1⟩|⟨g3,g1⟩
  ·rcases ar hid h2 with ⟨g4,e2⟩|⟨g4,g2⟩
   ·omega
   ·rw [e1] at b1;exact g3.trans (h.g.inj id j _ _ b hid g2 b1 b2)
  ·rcases ar hid h2 with ⟨g4,e2⟩|⟨g4,g2⟩
   ·rw [e2] at b2;exact (h.g.inj i id _ _ b g1 hid b1 b2).trans g4.symm
   ·exact h.g.inj i j ri rj b g1 g2 b1 b2
 ·rcases hi with hi|⟨rfl,_⟩
  ·have:=h.g.wf b o hi;simpa using this
  ·have:=bz kA;simpa using this
 ·exact h.b.keep e (fun q cs hk=>old _ (tH q cs hk)) (fun q cs o hk=>hI _ o (tH q cs hk)) (fun q cs hk hl=>live _ hl)
 ·refine ⟨e,rfl,rfl,rfl,by simp,fun b hb rq=>old b (fun eq=>rq (.inl (eq ▸ wv))),fun b hb ho=>?_,fun b o hi hb rq=>hI b o (fun eq=>rq (.inl (eq ▸ wv))) hi⟩;rcases ho with ho|ho
  ·exact .inl (live b ho)
  ·exact .inr ho
structure One (w w':World) (x:Obj):Prop where
 old:∀ b,b < w.heap.size→w'.heap[b]?=w.heap[b]?
 new:w'.heap[w.heap.size]?=some x
 size:w'.heap.size=w.heap.size+1
 os:w'.os=w.os
 tape:w'.tape=w.tape
 output:w'.output=w.output
 drawn:w.drawn≤w'.drawn
theorem One.alloc (w:World) (x:Obj):One w (w.alloc x) x:=⟨fun b hb=>heap_alloc_old w x b hb,heap_alloc_new w x,by simp,rfl,rfl,rfl,aaq _⟩
theorem One.drew (w:World) (x:Obj):One w (w.drew.alloc x) x:=⟨fun b hb=>heap_alloc_old w.drew x b hb,heap_alloc_new w.drew x,by simp,rfl,rfl,rfl,Nat.le_succ _⟩
theorem PF {w':World} {x:Obj} (o1:One w w' x) (wf:∀ b o,R.I b o→b < w.heap.size) {n id:Nat} {r0 r1:RO} (hid:nth R.obj id=some r0) (hle:cj r0 r1):Ext R w (R.upto w.heap.size n (ak R.obj id r1)) w':=
 ⟨fun _ _ h=>.inl h,fun b o h=>bL (o1.old b (wf b o h)) o,fun i r h=>by
  by_cases e:id=i
  ·subst e;rw [hid] at h;cases h;exact ⟨_,aj hid,hle⟩
  ·exact ⟨r,by rw [ai.upto,aJ e]; exact h,cj.refl r⟩,.old fun b hb=>o1.old b hb⟩
theorem aY.Uc (h:aY E R w β s a) {w':World} {x:Obj} (o1:One w w' x) {n id:Nat} {r0 r1:RO} {LV go:GO} (hg:nth s.G id=some LV) (hid:nth R.obj id=some r0) (hle:cj r0 r1) (lG:∀ b,r1.has b→b=w.heap.size∨r0.has b)
  (ia:iE (R.upto w.heap.size n (ak R.obj id r1)) w' go r1) :
  aY E (R.upto w.heap.size n (ak R.obj id r1)) w' β (s.bq (ak s.G id go)) a∧Step R w β s.boxes (R.upto w.heap.size n (ak R.obj id r1)) w' β s.boxes:=by
 have e:=PF (R:=R) (n:=n) o1 h.g.wf hid hle;have hI:∀ b o,b < w.heap.size→(R.upto w.heap.size n (ak R.obj id r1)).I b o→R.I b o:=fun b o hb hi=>by
  rcases hi with hi|⟨hi,_⟩
  ·exact hi
  ·omega
 have live:∀ b,b < w.heap.size→Live (R.upto w.heap.size n (ak R.obj id r1)) b→Live R b:=fun b hb hl=>by
  obtain ⟨i,r,h1,h2⟩:=hl;rcases ar hid h1 with ⟨_,rfl⟩|⟨_,h1⟩
  ·rcases lG b h2 with h3|h3
   ·omega
   ·exact ⟨id,r0,hid,h3⟩
  ·exact ⟨i,r,h1,h2⟩
 refine ⟨⟨⟨by simp [St.bq,ai.upto,h.g.len],fun i gg r h1 h2=>?_,fun i j ri rj b h1 h2 b1 b2=>?_,fun b o hi=>?_,fun g cs hg=>(h.g.dF g cs hg).mono e,Nat.le_trans h.g.lo o1.drawn⟩,?_,h.t.mono e,h.n,h.d.mono e⟩,?_⟩
 ·rcases ar hid h2 with ⟨rfl,rfl⟩|⟨cq,h2⟩
  ·simp only [St.bq] at h1;rw [aj hg] at h1;cases h1;exact ia
  ·simp only [St.bq] at h1;rw [aJ (aa8 cq)] at h1;exact (h.g.obj i gg r h1 h2).mono e (fun b hb=>o1.old b (h.g.bT ⟨i,r,h2,hb⟩)) (fun b o hb=>hI b o (h.g.bT ⟨i,r,h2,hb⟩))
 ·rcases ar hid h1 with ⟨g3,e1⟩|⟨g3,g1⟩
  ·rcases ar hid h2 with ⟨g4,e2⟩|⟨g4,g2⟩
   ·omega
   ·rw [e1] at b1;rcases lG b b1 with b3|b3
    ·have:=h.g.bT ⟨j,rj,g2,b2⟩;omega
    ·exact g3.trans (h.g.inj id j _ _ b hid g2 b3 b2)
  ·rcases ar hid h2 with ⟨g4,e2⟩|⟨g4,g2⟩
   ·rw [e2] at b2;rcases lG b b2 with b3|b3
    ·have:=h.g.bT ⟨i,ri,g1,b1⟩;omega
    ·exact (h.g.inj i id _ _ b g1 hid b1 b3).trans g4.symm
   ·exact h.g.inj i j ri rj b g1 g2 b1 b2
 ·rcases hi with hi|⟨rfl,_⟩
  ·have:=h.g.wf b o hi;rw [o1.size];omega
  ·rw [o1.size]; omega
 ·exact h.b.keep e (fun q cs hk=>o1.old _ (h.ea (.inr ⟨q,cs,hk,rfl⟩))) (fun q cs o hk=>hI _ o (h.ea (.inr ⟨q,cs,hk,rfl⟩))) (fun q cs hk hl=>live _ (h.ea (.inr ⟨q,cs,hk,rfl⟩)) hl)
 ·refine ⟨e,o1.os,o1.tape,o1.output,by rw [o1.size]; omega,fun b hb _=>o1.old b hb,fun b hb ho=>?_,fun b o hi hb _=>hI b o hb hi⟩;rcases ho with ho|ho
  ·exact .inl (live b hb ho)
  ·exact .inr ho
theorem aY.PG (h:aY E R w β s a) {cur cur2:Array Value} {elem:TypeId} {n id g:Nat} {r0 r1:RO} {LV go:GO} (hg:nth s.G id=some LV) (hid:nth R.obj id=some r0) (XA:r0.has g) (hle:cj r0 r1) (lG:∀ b,r1.has b→r0.has b)
  (kA:w.heap[g]?=some (.cells cur elem (0,0))) (zA:∀ o,R.I g o→cur2[o]?=cur[o]?)
  (ia:Ext R w (R.upto g n (ak R.obj id r1)) (w.setRow g cur2)→iE (R.upto g n (ak R.obj id r1)) (w.setRow g cur2) go r1) :
  Ext R w (R.upto g n (ak R.obj id r1)) (w.setRow g cur2)∧aY E (R.upto g n (ak R.obj id r1)) (w.setRow g cur2) β (s.bq (ak s.G id go)) a∧Step R w β s.boxes (R.upto g n (ak R.obj id r1)) (w.setRow g cur2) β s.boxes:=by
 have old:∀ b,b≠g→(w.setRow g cur2).heap[b]?=w.heap[b]?:=fun b hb=>setRow_other w g b cur2 hb
 have new:(w.setRow g cur2).heap[g]?=some (.cells cur2 elem (0,0)):=setRow_heap w g cur cur2 elem (0,0) kA;have wv:Live R g:=⟨id,_,hid,XA⟩;have e:Ext R w (R.upto g n (ak R.obj id r1)) (w.setRow g cur2):=by
  refine ⟨fun _ _ hi=>.inl hi,fun b o hi=>?_,fun i r hr=>?_,fun b r hb=>⟨r,(old b fun e=>by subst e; rw [kA] at hb; cases hb).trans hb,rfl,rfl,rfl,rfl,rfl⟩⟩
  ·by_cases hb:b=g
   ·subst hb;simp only [World.cell?,new,kA,zA o hi]
   ·exact bL (old b hb) o
  ·by_cases ei:id=i
   ·subst ei;rw [hid] at hr;cases hr;exact ⟨_,aj hid,hle⟩
   ·exact ⟨r,by rw [ai.upto,aJ ei]; exact hr,cj.refl r⟩
 have hI:∀ b o,b≠g→(R.upto g n (ak R.obj id r1)).I b o→R.I b o:=fun b o hb hi=>by
  rcases hi with hi|⟨hi,_⟩
  ·exact hi
  ·exact absurd hi hb
 have live:∀ b,Live (R.upto g n (ak R.obj id r1)) b→Live R b:=fun b hl=>by
  obtain ⟨i,r,h1,h2⟩:=hl;rcases ar hid h1 with ⟨_,rfl⟩|⟨_,h1⟩
  ·exact ⟨id,_,hid,lG b h2⟩
  ·exact ⟨i,r,h1,h2⟩
 have tH:∀ k cs,dR s.boxes k=some cs→β k≠g:=fun k cs hk eq=>(h.b.box k cs hk).2.2 (eq ▸ wv)
 refine ⟨e,⟨⟨by simp [St.bq,ai.upto,h.g.len],fun i gg r h1 h2=>?_,fun i j ri rj b h1 h2 b1 b2=>?_,fun b o hi=>?_,fun g cs hg=>(h.g.dF g cs hg).mono e,h.g.lo⟩,?_,h.t.mono e,h.n,h.d.mono e⟩,?_⟩
 ·rcases ar hid h2 with ⟨rfl,rfl⟩|⟨cq,h2⟩
  ·simp only [St.bq] at h1;rw [aj hg] at h1;cases h1;exact ia e
  ·simp only [St.bq] at h1;rw [aJ (aa8 cq)] at h1;have Ub:∀ b,r.has b→b≠g:=fun b hb eq=>cq (h.g.inj i id _ _ b h2 hid hb (by rw [eq]; exact XA))
   exact (h.g.obj i gg r h1 h2).mono e (fun b hb=>old b (Ub b hb)) (fun b o hb=>hI b o (Ub b hb))
 ·rcases ar hid h1 with ⟨g3,e1⟩|⟨g3,g1⟩
  ·rcases ar hid h2 with ⟨g4,e2⟩|⟨g4,g2⟩
   ·omega
   ·rw [e1] at b1;exact g3.trans (h.g.inj id j _ _ b hid g2 (lG b b1) b2)
  ·rcases ar hid h2 with ⟨g4,e2⟩|⟨g4,g2⟩
   ·rw [e2] at b2;exact (h.g.inj i id _ _ b g1 hid b1 (lG b b2)).trans g4.symm
   ·exact h.g.inj i j ri rj b g1 g2 b1 b2
 ·rcases hi with hi|⟨rfl,_⟩
  ·have:=h.g.wf b o hi;simpa using this
  ·have:=bz kA;simpa using this
 ·exact h.b.keep e (fun q cs hk=>old _ (tH q cs hk)) (fun q cs o hk=>hI _ o (tH q cs hk)) (fun q cs hk hl=>live _ hl)
 ·refine ⟨e,rfl,rfl,rfl,by simp,fun b hb rq=>old b (fun eq=>rq (.inl (eq ▸ wv))),fun b hb ho=>?_,fun b o hi hb rq=>hI b o (fun eq=>rq (.inl (eq ▸ wv))) hi⟩;rcases ho with ho|ho
  ·exact .inl (live b ho)
  ·exact .inr ho
theorem uu.set {ts:List TR} {j:Nat} {t t':TR} (ht:nth ts j=some t) (hle:iD t t'):uu ts (ak ts j t'):=fun i u hu=>by
 by_cases e:j=i
 ·subst e;rw [ht] at hu;cases hu;exact ⟨t',aj ht,hle⟩
 ·exact ⟨u,by rw [aJ e]; exact hu,iD.refl u⟩
theorem I4 {ts:List TR} {j n g c b:Nat} (h:RO.has (.aX (ak ts j (.tok n g c))) b):b=g∨RO.has (.aX ts) b:=by
 obtain ⟨i,f,c',hi⟩:=h;rcases b8 hi with ⟨_,e,_⟩|⟨_,hi⟩
 ·cases e; exact .inl rfl
 ·exact .inr ⟨i,f,c',hi⟩
theorem Ch.of {R':ai} {w':World} {sz f:Nat} {e:TypeId} {t:TR} (h:Ch R w sz e f t) (hold:∀ f b c,t=.tok f b c→w'.heap[b]?=w.heap[b]?∧∀ o,R'.I b o→R.I b o):Ch R' w' sz e f t:=by
 cases t with
 |a8=>exact h
 |full f'=>exact h
 |tok f' b c=>
  obtain ⟨h0,cur,h1,h2,h3,h4,h5⟩:=h;obtain ⟨k1,k2⟩:=hold f' b c rfl;exact ⟨h0,cur,k1.trans h1,h2,h3,h4,fun o ho hi=>h5 o ho (k2 o hi)⟩
theorem zl.set {R':ai} {w':World} {sz:Nat} {e:TypeId} {fs:List Nat} {ts:List TR} (h:zl R w sz e fs ts) {j n g c:Nat} (pX:Ch R' w' sz e n (.tok n g c)) (Mz:∀ i f c,nth ts i=some (.tok f g c)→i=j)
  (hold:∀ i f b c,i≠j→nth ts i=some (.tok f b c)→w'.heap[b]?=w.heap[b]?∧∀ o,R'.I b o→R.I b o):zl R' w' sz e (ak fs j n) (ak ts j (.tok n g c)):=by
 obtain ⟨h1,h2,h3⟩:=h;refine ⟨by simp [h1],fun i i' f1 b c1 f2 c2 q1 q2=>?_,fun i f1 t1 q1 q2=>?_⟩
 ·rcases b8 q1 with ⟨n1,e1,_⟩|⟨n1,q1⟩
  ·cases e1;rcases b8 q2 with ⟨n2,_,_⟩|⟨n2,q2⟩
   ·exact n1.symm.trans n2
   ·exact absurd (Mz _ _ _ q2).symm n2
  ·rcases b8 q2 with ⟨n2,e2,_⟩|⟨n2,q2⟩
   ·cases e2;exact (Mz _ _ _ q1).trans n2
   ·exact h2 i i' _ _ _ _ _ q1 q2
 ·rcases b8 q1 with ⟨n1,e1,_⟩|⟨n1,q1⟩
  ·rcases b8 q2 with ⟨_,e2,_⟩|⟨n2,_⟩
   ·subst e1 e2;exact pX
   ·exact absurd n1 n2
  ·rcases b8 q2 with ⟨n2,_,_⟩|⟨n2,q2⟩
   ·exact absurd n2 n1
   ·exact (h3 i f1 t1 q1 q2).of fun f b c ht=>by subst ht; exact hold i f b c (aa8 n2) q2
end ops
end Go.Am
