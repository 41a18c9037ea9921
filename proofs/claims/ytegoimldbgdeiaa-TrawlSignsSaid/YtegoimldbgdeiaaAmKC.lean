/- The abstract machine: what it does is what the model does: slices that are built and cut. -/
import Derived.Test.YtegoimldbgdeiaaAmKB
import Derived.IntWalk
set_option linter.all false
namespace Go.Am
open Go
theorem cJ (l r:List AV):aw (l++r)=aw l++aw r:=by
 induction l with
 |nil=>rfl
 |cons e l ih=>simp [aw,ih]
theorem cS {sz:Nat} {es:List AV} (h:jk sz es):(aw es).length=es.length * sz:=by
 induction es with
 |nil=>simp [aw]
 |cons e es ih=>
  have h1:=(h e (by simp)).1;have:=ih (fun x hx=>h x (by simp [hx]));simp only [aw,List.length_append,this,h1,List.length_cons,Nat.add_mul];omega
section rel
variable {R:ai} {w:World}
theorem lm {b sz:Nat}:∀ {es:List AV} {o:Nat},jk sz es→fg R w b o (aw es)→iA R w b o sz es
 |[],_,_,_=>.nil
 |e :: es,o,h,hc=>by
  obtain ⟨h1,h2,h3⟩:=h e (by simp);obtain ⟨vs,k1,k2,k3,k4⟩:=hc.get;have hd:=hc.drop sz;have WY:(aw (e :: es)).drop sz=aw es:=by simp only [aw]; rw [← h1,List.drop_left]
  have KY:(aw (e :: es)).take sz=e.cells:=by simp only [aw]; rw [← h1,List.take_left]
  rw [WY] at hd;refine .cons h1 h2 h3 ?_ (lm (fun x hx=>h x (by simp [hx])) hd);have kt:=k1.take sz;rw [KY] at kt;refine .make kt (fun v hv=>k2 v (List.mem_of_mem_take hv)) (fun j v hv=>k3 j v ?_) (fun j hj=>k4 j ?_)
  ·rw [List.getElem?_take] at hv;split at hv
   ·exact hv
   ·cases hv
  ·simp only [aw,List.length_append];omega
theorem xW {b sz:Nat}:∀ {es:List AV} {o:Nat},iA R w b o sz es→jk sz es∧∃ vs,aL R w (aw es) vs∧(∀ v∈vs,v.oneCell'=true)∧(∀ j v,vs[j]?=some v→w.cell? ⟨b,o+j,none⟩=some v)∧∀ j,j < es.length * sz→R.I b (o+j)
 |[],o,_=>⟨fun e he=>by simp at he,[],.nil,by simp,by simp,by simp⟩
 |e :: es,o,h=>by
  cases h with
  |cons hl ht hk hc t=>
   obtain ⟨g0,vs,g1,g2,g3,g4⟩:=xW t;obtain ⟨us,f1,f2,f3,f4⟩:=hc.get;have hlen:us.length=sz:=by rw [← f1.length,hl]
   refine ⟨fun x hx=>?_,us++vs,f1.append g1,fun v hv=>?_,fun j v hv=>?_,fun j hj=>?_⟩
   ·rcases List.mem_cons.1 hx with rfl|hx
    ·exact ⟨hl,ht,hk⟩
    ·exact g0 x hx
   ·rcases List.mem_append.1 hv with hv|hv
    ·exact f2 v hv
    ·exact g2 v hv
   ·by_cases hj:j < sz
    ·rw [List.getElem?_append_left (by omega)] at hv;exact f3 j v hv
    ·rw [List.getElem?_append_right (by omega),hlen] at hv;have:=g3 _ v hv;rwa [show o+sz+(j - sz)=o+j by omega] at this
   ·by_cases RV:j < sz
    ·exact f4 j (by omega)
    ·have:=g4 (j - sz) (by simp only [List.length_cons,Nat.add_mul] at hj; omega);rwa [show o+sz+(j - sz)=o+j by omega] at this
theorem uU {b sz:Nat}:∀ (n:Nat) {es:List AV} {o:Nat},iA R w b o sz es→iA R w b (o+n * sz) sz (es.drop n)
 |0,es,o,h=>by simpa using h
 |n+1,[],o,h=>by simpa using iA.nil
 |n+1,e :: es,o,h=>by
  cases h with
  |cons hl ht hk hc t=>
   have:=uU n t;rw [show o+sz+n * sz=o+(n+1) * sz by rw [Nat.add_mul]; omega] at this;simpa using this
theorem uV {b sz:Nat}:∀ (n:Nat) {es:List AV} {o:Nat},iA R w b o sz es→iA R w b o sz (es.take n)
 |0,es,o,h=>by simpa using iA.nil
 |n+1,[],o,h=>by simpa using iA.nil
 |n+1,e :: es,o,h=>by
  cases h with
  |cons hl ht hk hc t=>simpa using iA.cons hl ht hk hc (uV n t)
end rel
theorem eF {sz n:Nat} {z:AV} (h1:z.cells.length=sz) (h2:z.aS=true) (h3:z.closed=true):jk sz (List.replicate n z):=fun e he=>by
 rw [List.mem_replicate] at he;rw [he.2];exact ⟨h1,h2,h3⟩
theorem xX {sz:Nat}:∀ {es:List AV} {i:Nat} {v:AV},jk sz es→i < es.length→v.cells.length=sz→aw (aq es i v)=b9 (aw es) (i * sz) v.cells
 |[],i,v,_,h,_=>by simp at h
 |e :: es,0,v,h,_,hv=>by
  have h1:=(h e (by simp)).1;simp only [aq,aw,Nat.zero_mul];rw [fm _ 0 _ (by simp; omega)];simp only [List.take_zero,List.nil_append,Nat.zero_add];rw [hv,← h1,List.drop_left]
 |e :: es,i+1,v,h,hi,hv=>by
  have h1:=(h e (by simp)).1;have Di:jk sz es:=fun x hx=>h x (by simp [hx])
  have ih:=xX (i:=i) (v:=v) Di (by simpa using hi) hv;have bO:i < es.length:=by simpa using hi
  have hle:i * sz+sz≤es.length * sz:=by rw [← Nat.succ_mul]; exact Nat.mul_le_mul_right _ bO
  have hl:=cS Di;simp only [aq,aw];have e1:(i+1) * sz=e.cells.length+i * sz:=by rw [h1,Nat.succ_mul]; omega
  have e2:List.take (e.cells.length+i * sz) e.cells=e.cells:=List.take_of_length_le (by omega);rw [ih,fm _ _ _ (by omega),e1,fm _ _ _ (by simp only [List.length_append]; omega)];rw [List.take_append,e2,Nat.add_assoc,List.drop_append,List.drop_of_length_le (by omega:e.cells.length≤e.cells.length+(i * sz+v.cells.length))];simp [Nat.add_sub_cancel_left]
theorem I3 {sz:Nat} {es:List AV} {i:Nat} {v:AV} (h:jk sz es) (h1:v.cells.length=sz) (h2:v.aS=true) (h3:v.closed=true):jk sz (aq es i v):=fun e he=>by
 rw [dQ] at he;rcases List.mem_or_eq_of_mem_set he with he|rfl
 ·exact h e he
 ·exact ⟨h1,h2,h3⟩
theorem vJ {sz:Nat}:∀ {ps:List (Nat × AV)} {es es':List AV},Dr sz es ps=some es'→jk sz es →
  vE (fun i=>some (i * sz,sz)) (aw es) ps=some (aw es')∧jk sz es'∧es'.length=es.length
 |[],es,es',h,hk=>by simp [Dr] at h; subst h; exact ⟨rfl,hk,rfl⟩
 |(i,v) :: ps,es,es',h,hk=>by
  unfold Dr at h;split at h
  ·rename_i hc;simp only [Bool.and_eq_true] at hc;obtain ⟨⟨⟨hn,hl⟩,hi⟩,Nv⟩:=hc;have hl':=Nat.eq_of_beq_eq_true hl;have qL:=Nat.le_of_ble_eq_true hi;obtain ⟨g1,g2,g3⟩:=vJ h (I3 hk hl' hn Nv);refine ⟨?_,g2,by simpa using g3⟩;unfold vE;have hle:Nat.ble (i * sz+sz) (aw es).length=true:=by
    apply Nat.ble_eq_true_of_le;rw [cS hk,← Nat.succ_mul];exact Nat.mul_le_mul_right _ qL
   simp only [hn,hl,hle,Bool.and_self,if_true];rw [← xX hk (by omega) hl'];exact g1
  ·cases h
section ops
variable {E:Env} {R:ai} {w:World} {β:Nat→Nat} {s:St} {a:Act} {o:Oper}
def ai.V2 (R:ai) (b:Nat):ai:=⟨fun b' o=>R.I b' o∨b'=b,R.obj⟩
theorem Cj (wf:∀ b o,R.I b o→b < w.heap.size) (x:Obj):Ext R w (R.V2 w.heap.size) (w.alloc x):=
 ⟨fun _ _ h=>.inl h,fun b o h=>bP (heap_alloc_old w x b (wf b o h)) o,fun _ ro h=>⟨ro,h,cp.refl ro⟩,.old fun b hb=>heap_alloc_old w x b hb⟩
theorem aX.V2 (h:aX E R w β s a) (x:Obj):aX E (R.V2 w.heap.size) (w.alloc x) β s a:=
 h.aZ (Cj h.g.wf x) rfl (fun b hb=>heap_alloc_old w x b (h.eg hb)) (fun b o hb hi=>by
  rcases hi with hi|hi
  ·exact hi
  ·have:=h.eg hb;omega) (fun b o hi=>by
  rcases hi with hi|hi
  ·have:=h.g.wf b o hi;simp;omega
  ·simp;omega)
theorem KZ (h:aX E R w β s a) (x:Obj):Step R w β s.boxes (R.V2 w.heap.size) (w.alloc x) β s.boxes:=
 ⟨Cj h.g.wf x,rfl,rfl,rfl,by simp,fun b hb _=>heap_alloc_old w x b hb,fun _ _ ho=>ho,fun b o hi hb _=>by
  rcases hi with hi|hi
  ·exact hi
  ·omega⟩
theorem pW (z:Array Value):∀ (n:Nat),(((Array.range (n * z.size)).map fun i=>z[i % z.size]!)).toList=(List.replicate n z.toList).flatten
 |0=>by simp
 |n+1=>by
  have ih:=pW z n;simp only [Array.toList_map,Array.toList_range] at ih ⊢;rw [Nat.add_mul,Nat.one_mul,List.range_add,List.map_append,ih,List.replicate_succ',List.flatten_append];congr 1;simp only [List.map_map,List.flatten_cons,List.flatten_nil,List.append_nil];apply List.ext_getElem?;intro i;by_cases hi:i < z.size
  ·simp only [List.getElem?_map,List.getElem?_range hi,Option.map_some,Function.comp_apply];rw [Nat.mul_comm n,Nat.mul_add_mod,Nat.mod_eq_of_lt hi];simp [hi]
  ·rw [List.getElem?_eq_none (by simp; omega),List.getElem?_eq_none (by simp; omega)]
theorem nN {z:AV} {c:Value} (hr:Rel R w z c) (hn:z.aS=true):∀ (n:Nat),aL R w (aw (List.replicate n z)) (List.replicate n c.cells.toList).flatten∧∀ v∈(List.replicate n c.cells.toList).flatten,v.oneCell'=true
 |0=>by simp [aw]; exact .nil
 |n+1=>by
  obtain ⟨c1,c2⟩:=Rel.cells hr hn;obtain ⟨h1,h2⟩:=nN hr hn n;refine ⟨?_,fun v hv=>?_⟩
  ·simpa [List.replicate_succ,aw] using c1.append h1
  ·simp only [List.replicate_succ,List.flatten_cons,List.mem_append] at hv;rcases hv with hv|hv
   ·exact c2 v hv
   ·exact h2 v hv
theorem uW:∀ {ps:List (Nat × AV)} {us:List Value},aL R w (ps.map (·.2)) us→aL R w ((A5 ps).map (·.2)) us
 |[],_,h=>h
 |(_,_) :: _,_,.cons h t=>.cons h.iy (uW t)
theorem uX:∀ (ps:List (Nat × AV)),(A5 ps).map (·.1)=ps.map (·.1)
 |[]=>rfl
 |(i,v) :: l=>by simp [A5,uX l]
theorem jm (h:aX E R w β s a) (t:TypeId) (len:Nat) (parts:Array (Nat × Operand)) (ho:o.op=.buildSlice t len parts) {v:AV} (hv:bZ E s t len parts.toList=some v) :
  ∃ es esz us elem,v=.list .full esz es∧(execOp a.eval o).run E.P w=.ok (.value (.slice (some ⟨w.heap.size,0,none⟩) len len)) (w.alloc (.cells ⟨us⟩ elem))∧jk esz es∧es.length=len∧aL R w (aw es) us∧(∀ x∈us,x.oneCell'=true)∧∃ i ag oI z,E.ti t=some i∧i.k=.sl elem esz ag oI z:=by
 unfold bZ at hv;split at hv
 ·rename_i i ps hi Ku;split at hv
  ·rename_i elem esz ag oI z hk;split at hv
   ·rename_i hc;simp only [Bool.and_eq_true] at hc;obtain ⟨⟨⟨⟨FF,WZ⟩,W0⟩,hz4⟩,hz5⟩:=hc;have FF:=Nat.eq_of_beq_eq_true FF;have WZ:=Nat.le_of_ble_eq_true WZ;have W0:=Nat.le_of_ble_eq_true W0;split at hv
    ·rename_i es Di;cases hv;obtain ⟨gY,u,e1,e2,e3,e4,e5,e6⟩:=bT E hi;rw [hk] at e5;obtain ⟨ie,ue,rfl,f1,f2,f3,f4,f5,f6⟩:=dF e5;obtain ⟨zc,pD,E4⟩:=dE f6;have Qz:=E4 R w;obtain ⟨c1,c2⟩:=Rel.cells Qz hz4;have tc:zc.cells.size=esz:=by rw [← FF,c1.length]; simp
     obtain ⟨p1,p2⟩:=xi h Ku;obtain ⟨z1,z2⟩:=nN Qz hz4 len;obtain ⟨g1,g2,g3⟩:=vJ Di (eF FF hz4 hz5);obtain ⟨us,u1,u2,u3⟩:=pV (R:=R) (w:=w) _ (uW p1) ((uX ps).trans p2) z1 z2 g1;have RU:(parts.map fun (x:Nat × Operand)=>(x.1,a.eval x.2)).toList=parts.toList.map fun x=>(x.1,a.eval x.2):=by simp
     have xY:((Array.range (len * esz)).map fun i=>zc.cells[i % zc.cells.size]!)=⟨(List.replicate len zc.cells.toList).flatten⟩:=by
      apply Array.ext';rw [← tc];exact pW zc.cells len
     have hlen:es.length=len:=by simpa using g3
     have bB:(Instr.buildSlice t len (parts.map fun (x:Nat × Operand)=>(x.1,a.eval x.2))).run E.P w=.ok (.slice (some ⟨w.heap.size,0,none⟩) len len) (w.alloc (.cells ⟨us⟩ elem)):=by
      have Nu:¬ len * esz > 2 ^ 24:=by omega
      by_cases h0:len * esz=0
      ·have wI:len=0:=by
        rcases Nat.mul_eq_zero.1 h0 with h0|h0 <;> omega
       subst wI;have u1':Instr.fill (fun i=>some (i * esz,esz)) #[] (parts.toList.map fun x=>(x.1,a.eval x.2))=some ⟨us⟩:=by simpa using u1
       simp only [Instr.buildSlice,Sem.run_bind,run_underlying e2,Result.andThen_ok,run_sizeOf w f1,f2];simp only [Nat.zero_mul,gt_iff_lt,Nat.not_lt_zero,if_false,if_true,Sem.run_bind,Sem.run_pure,Result.andThen_ok,RU];have Dx:∀ f:Nat→Value,Array.map f (Array.range 0)=#[]:=fun f=>by simp
       simp only [Dx,u1',newRow,Sem.run_bind,run_newObj,Result.andThen_ok,Sem.run_pure];rfl
      ·simp only [Instr.buildSlice,Sem.run_bind,run_underlying e2,Result.andThen_ok,run_sizeOf w f1,f2];rw [if_neg Nu,if_neg h0];simp only [Sem.run_bind,Sem.run_pure,Result.andThen_ok,iC w f1 pD,RU,xY,u1,newRow,run_newObj];rfl
     exact ⟨es,esz,us,elem,rfl,by simp only [execOp,ho,Sem.run_bind,bB,Result.andThen_ok,Sem.run_pure],g2,hlen,u2,u3,i,ag,oI,_,hi,hk⟩
    ·cases hv
   ·cases hv
  ·cases hv
 ·cases hv
theorem wJ (h:aX E R w β s a) (t:TypeId) (len:Nat) (parts:Array (Nat × Operand)) (ho:o.op=.buildSlice t len parts) {cs:List AV} (hv:kK E s t len parts.toList=some cs) :
  ∃ esz us elem,(execOp a.eval o).run E.P w=.ok (.value (.slice (some ⟨w.heap.size,0,none⟩) len len)) (w.alloc (.cells ⟨us⟩ elem))∧aL R w cs us∧(∀ x∈us,x.oneCell'=true)∧∃ i ag oI z,E.ti t=some i∧i.k=.sl elem esz ag oI z:=by
 unfold kK at hv;split at hv
 ·rename_i i ps hi Ku;split at hv
  ·rename_i elem esz ag oI z hk;split at hv
   ·rename_i hc;simp only [Bool.and_eq_true] at hc;obtain ⟨⟨⟨FF,WZ⟩,W0⟩,hz4⟩:=hc;have FF:=Nat.eq_of_beq_eq_true FF;have WZ:=Nat.le_of_ble_eq_true WZ;have W0:=Nat.le_of_ble_eq_true W0
    ·have g1:=hv;obtain ⟨gY,u,e1,e2,e3,e4,e5,e6⟩:=bT E hi;rw [hk] at e5;obtain ⟨ie,ue,rfl,f1,f2,f3,f4,f5,f6⟩:=dF e5;obtain ⟨zc,pD,E4⟩:=dE f6;have Qz:=E4 R w;obtain ⟨c1,c2⟩:=Rel.cells Qz hz4;have tc:zc.cells.size=esz:=by rw [← FF,c1.length]; simp
     obtain ⟨p1,p2⟩:=xi h Ku;obtain ⟨z1,z2⟩:=nN Qz hz4 len;obtain ⟨us,u1,u2,u3⟩:=pV (R:=R) (w:=w) _ (uW p1) ((uX ps).trans p2) z1 z2 g1;have RU:(parts.map fun (x:Nat × Operand)=>(x.1,a.eval x.2)).toList=parts.toList.map fun x=>(x.1,a.eval x.2):=by simp
     have xY:((Array.range (len * esz)).map fun i=>zc.cells[i % zc.cells.size]!)=⟨(List.replicate len zc.cells.toList).flatten⟩:=by
      apply Array.ext';rw [← tc];exact pW zc.cells len
     have bB:(Instr.buildSlice t len (parts.map fun (x:Nat × Operand)=>(x.1,a.eval x.2))).run E.P w=.ok (.slice (some ⟨w.heap.size,0,none⟩) len len) (w.alloc (.cells ⟨us⟩ elem)):=by
      have Nu:¬ len * esz > 2 ^ 24:=by omega
      by_cases h0:len * esz=0
      ·have wI:len=0:=by
        rcases Nat.mul_eq_zero.1 h0 with h0|h0 <;> omega
       subst wI;have u1':Instr.fill (fun i=>some (i * esz,esz)) #[] (parts.toList.map fun x=>(x.1,a.eval x.2))=some ⟨us⟩:=by simpa using u1
       simp only [Instr.buildSlice,Sem.run_bind,run_underlying e2,Result.andThen_ok,run_sizeOf w f1,f2];simp only [Nat.zero_mul,gt_iff_lt,Nat.not_lt_zero,if_false,if_true,Sem.run_bind,Sem.run_pure,Result.andThen_ok,RU];have Dx:∀ f:Nat→Value,Array.map f (Array.range 0)=#[]:=fun f=>by simp
       simp only [Dx,u1',newRow,Sem.run_bind,run_newObj,Result.andThen_ok,Sem.run_pure];rfl
      ·simp only [Instr.buildSlice,Sem.run_bind,run_underlying e2,Result.andThen_ok,run_sizeOf w f1,f2];rw [if_neg Nu,if_neg h0];simp only [Sem.run_bind,Sem.run_pure,Result.andThen_ok,iC w f1 pD,RU,xY,u1,newRow,run_newObj];rfl
     exact ⟨esz,us,elem,by simp only [execOp,ho,Sem.run_bind,bB,Result.andThen_ok,Sem.run_pure],u2,u3,i,ag,oI,_,hi,hk⟩
   ·cases hv
  ·cases hv
 ·cases hv
theorem wK (h:aX E R w β s a) (t:TypeId) (len:Nat) (parts:Array (Nat × Operand)) (ho:o.op=.buildSlice t len parts) {v:AV} (hv:bZ E s t len parts.toList=some v) :
  bH E R w β s a o (s.put o.dst (.v v)):=by
 obtain ⟨es,esz,us,elem,rfl,bB,g2,hlen,u2,u3,_⟩:=jm h t len parts ho hv;have e:=Cj (R:=R) (w:=w) h.g.wf (.cells ⟨us⟩ elem);refine ⟨_,.slice (some ⟨w.heap.size,0,none⟩) len len,_,R.V2 w.heap.size,β,bB,.inl rfl,(h.V2 (.cells ⟨us⟩ elem)).put o.dst ?_,by rw [aT]; exact KZ h _⟩;refine Rel.list (lm g2 (fg.make (u2.mono e) u3 (fun j x hx=>?_) (fun j _=>.inr rfl))) hlen.symm (Nat.le_refl _) rfl;rw [kb (heap_alloc_new w _)];simpa using hx
theorem uY (h:aX E R w β s a) (t:TypeId) (len:Nat) (parts:Array (Nat × Operand)) (ho:o.op=.buildSlice t len parts) {cs:List AV} (hv:kK E s t len parts.toList=some cs) {i:TI} (hi:E.ti t=some i) {el:TypeId} {esz eb:Nat} {ag:Bool} {z:Option AV} (hk:i.k=.sl el esz ag eb z) :
  bH E R w β s a o ((s.dW (.row cs el)).put o.dst (.v (.jB s.G.length 0 esz len len))):=by
 obtain ⟨RW,us,elem,bB,u2,u3,i',ag',V3,z',qL,jy⟩:=wJ h t len parts ho hv;rw [hi] at qL;cases qL;rw [hk] at jy;cases jy;have e:=gZ (R:=R) (w:=w) h.g.wf (.cells ⟨us⟩ el) (.bK w.heap.size);have iB:gX (R.add (.bK w.heap.size)) (w.alloc (.cells ⟨us⟩ el)) (.row cs el) (.bK w.heap.size):=
  ⟨_,heap_alloc_new w _,u2.mono e,u3,fun o' hi=>by have:=h.g.wf _ _ hi; omega⟩
 exact ⟨_,_,_,R.add (.bK w.heap.size),β,bB,.inl rfl,(h.lD _ _ _ (by exact fun _ h=>h) iB).put o.dst (x:=.v (.jB s.G.length 0 esz len len)) (Rel.jB (gr h _) (Nat.le_refl _)),by rw [aT]; exact cQ h _ _ (by exact fun _ h=>h)⟩
theorem uZ (h:aX E R w β s a) (t:TypeId) (len:Nat) (parts:Array (Nat × Operand)) (ho:o.op=.buildSlice t len parts) {k:LK} {esz:Nat} {es:List AV} (hv:bZ E s t len parts.toList=some (.list k esz es)) {i:TI} (hi:E.ti t=some i) {el:TypeId} {bu eb:Nat} {ag:Bool} {z:Option AV} (hk:i.k=.sl el bu ag eb z) :
  bH E R w β s a o ((s.dW (.row (aw es) el)).put o.dst (.v (.jB s.G.length 0 esz len len))):=by
 obtain ⟨es',RW,us,elem,W1,bB,g2,hlen,u2,u3,i',ag',V3,z',qL,jy⟩:=jm h t len parts ho hv;cases W1;rw [hi] at qL;cases qL;rw [hk] at jy;cases jy;have e:=gZ (R:=R) (w:=w) h.g.wf (.cells ⟨us⟩ el) (.bK w.heap.size);have iB:gX (R.add (.bK w.heap.size)) (w.alloc (.cells ⟨us⟩ el)) (.row (aw es) el) (.bK w.heap.size):=
  ⟨_,heap_alloc_new w _,u2.mono e,u3,fun o' hi=>by have:=h.g.wf _ _ hi; omega⟩
 exact ⟨_,_,_,R.add (.bK w.heap.size),β,bB,.inl rfl,(h.lD _ _ _ (by exact fun _ h=>h) iB).put o.dst (x:=.v (.jB s.G.length 0 esz len len)) (Rel.jB (gr h _) (Nat.le_refl _)),by rw [aT]; exact cQ h _ _ (by exact fun _ h=>h)⟩
end ops
end Go.Am
namespace Go.Am
open Go
section ops
variable {E:Env} {R:ai} {w:World} {β:Nat→Nat} {s:St} {a:Act} {o:Oper}
def RX (R:ai) (w:World) (β:Nat→Nat):Option SV→Option Value→Prop
 |none,none=>True
 |some x,some c=>pQ R w β x c
 |_,_=>False
theorem Bi {y y' n:Nat} {x:SV} {c:Value} (hx:pQ R w β x c) (hb:xL y x=some (true,n)) (hy:y≤y') (code:BoundsCode) :
  (Instr.sliceBound c y' code).run E.P w=.ok n w∧n≤y:=by
 unfold xL at hb;split at hb
 ·rename_i k m;injection hb with hb;injection hb with h1 h2;subst h2;obtain ⟨h0,h3⟩:=of_decide_eq_true h1;have wG:Rel R w (.int k m) c:=hx;cases wG;exact ⟨run_sliceBound (P:=E.P) w k m y' code h0 (by omega),by omega⟩
 ·cases hb
theorem dX (isS:Bool) {len cap l h:Nat} (Dh:len≤cap) {lo hi:Option SV} {lv hv:Option Value} (hl:RX R w β lo lv) (hh:RX R w β hi hv) (hb:Ca len lo hi=some (true,l,h)) :
  (Instr.sliceBounds isS len cap lv hv none).run E.P w=.ok (l,h,cap) w∧l≤h∧h≤len:=by
 unfold Ca at hb;split at hb
 ·cases hb
 ·rename_i c1 h' jW;split at hb
  ·cases hb
  ·rename_i c2 l' RY;injection hb with hb;injection hb with hc hb;injection hb with e1 e2;subst e1; subst e2;simp only [Bool.and_eq_true] at hc;obtain ⟨rfl,rfl⟩:=hc;have H:∃ _:True,(match hv with | some v=>Instr.sliceBound v cap (if isS=true then .sliceAcap else .sliceAlen) | none=>pure len).run E.P w=.ok h' w∧h'≤len:=by
    refine ⟨trivial,?_⟩;cases hi with
    |none=>cases hv with
     |none=>simp at jW; subst jW; exact ⟨rfl,Nat.le_refl _⟩
     |some v=>exact hh.elim
    |some x=>cases hv with
     |none=>exact hh.elim
     |some v=>exact Bi (E:=E) hh jW Dh _
   have L:∃ _:True,(match lv with | some v=>Instr.sliceBound v h' .sliceB | none=>pure 0).run E.P w=.ok l' w∧l'≤h':=by
    refine ⟨trivial,?_⟩;cases lo with
    |none=>cases lv with
     |none=>simp at RY; subst RY; exact ⟨rfl,Nat.zero_le _⟩
     |some v=>exact hl.elim
    |some x=>cases lv with
     |none=>exact hl.elim
     |some v=>exact Bi (E:=E) hl RY (Nat.le_refl _) _
   obtain ⟨_,H1,H2⟩:=H;obtain ⟨_,L1,L2⟩:=L;refine ⟨?_,L2,H2⟩;cases hv <;> cases lv <;> simp_all [Instr.sliceBounds]
theorem td (h:aX E R w β s a) {x:Option Operand} {y:Option SV} (hx:mC E s.ae x=some y):RX R w β y (x.map a.eval):=by
 cases x with
 |none=>simp [mC] at hx; subst hx; trivial
 |some x=>simp [mC] at hx; subst hx; exact aQ h x
theorem pX {α:Type} {l:List α} {lo hi:Nat} (h:hi≤l.length):(jC lo hi l).length=hi - lo:=by
 simp [jC];omega
theorem Az (l:List UInt8) (lo hi:Nat):(⟨⟨l⟩⟩:ByteArray).extract lo hi=⟨⟨jC lo hi l⟩⟩:=by
 apply ByteArray.ext;rw [ByteArray.data_extract];apply Array.ext';simp [List.extract_eq_take_drop,jC,List.drop_take]
theorem Hz {ag:Bool} {b sz:Nat} (fb:(ag || Nat.beq sz 1)=true):∀ (n:Nat) {cs:List AV} {o:Nat},fg R w b o cs→n * sz≤cs.length→allFit (Fm ag) (iM ag sz n cs)=true→iA R w b o sz (iM ag sz n cs)
 |0,_,_,_,_,_=>.nil
 |n+1,cs,o,hc,hl,hf=>by
  simp only [iM,allFit,Bool.and_eq_true] at hf;obtain ⟨wL,Zx⟩:=hf;unfold Fm at wL;simp only [Bool.and_eq_true] at wL;obtain ⟨⟨h1,h2⟩,h3⟩:=wL;have hle:sz≤cs.length:=by rw [Nat.succ_mul] at hl; omega
  have nr:(WN ag (cs.take sz)).cells=cs.take sz:=by
   cases ag with
   |true=>rfl
   |false=>
    have FC:sz=1:=by simpa using fb
    subst FC
    match cs,hle with
    |a :: cs,_=>
     show AV.cells a=[a];have ho:a.one=true:=by simpa [WN,eQ] using h2
     cases a <;> first | rfl | simp [AV.one] at ho
  obtain ⟨vs,k1,k2,k3,k4⟩:=hc.get;have hA:fg R w b o (cs.take sz):=fg.make (k1.take sz) (fun v hv=>k2 v (List.mem_of_mem_take hv)) (fun j v hv=>k3 j v (by
   rw [List.getElem?_take] at hv;split at hv
   ·exact hv
   ·cases hv)) (fun j hj=>k4 j (by rw [List.length_take] at hj; omega))
  exact .cons (by rw [nr,List.length_take,Nat.min_eq_left hle]) h1 h3 (by rw [nr]; exact hA) (Hz fb n (hc.drop sz) (by rw [List.length_drop]; rw [Nat.succ_mul] at hl; omega) Zx)
theorem rL (ag:Bool) (sz:Nat):∀ (n:Nat) (cs:List AV),(iM ag sz n cs).length=n
 |0,_=>rfl
 |n+1,cs=>by simp [iM,rL ag sz n]
theorem FG (h:aX E R w β s a) (t:TypeId) (x:Operand) (lo hi:Option Operand) (ho:o.op=.slice t x lo hi none) {l h':Option SV} (hl:mC E s.ae lo=some l) (hh:mC E s.ae hi=some h') {v:AV} (hv:Cb E t (bw E s.ae x) l h' none=some (true,v)) :
  bH E R w β s a o (s.put o.dst (.v v)):=by
 have rx:=aQ h x;have rl:=td h hl;have rh:=td h hh;unfold Cb at hv;split at hv
 ·rename_i i qL hmx;obtain ⟨gY,u,e1,e2,e3,e4,e5,e6⟩:=bT E qL;split at hv
  ·-- a string
   rename_i bs hk hx;rw [hx] at rx;have dH:Rel R w (.str bs) (a.eval x):=rx;generalize fD:a.eval x=xv at dH;cases dH;rw [hk] at e5;have:=lE e5;subst this;split at hv
   ·rename_i c p q hb;injection hv with hv;injection hv with h1 h2;subst h1; subst h2;obtain ⟨k1,k2,k3⟩:=dX (E:=E) false (Nat.le_refl _) rl rh hb;refine ao h (c:=.string ⟨⟨jC p q bs⟩⟩) ?_ (Rel.str _);rw [← Az];simp only [execOp,ho,Instr.sliceAt,Sem.run_bind,run_underlying e2,Result.andThen_ok,Instr.slice,fD,Option.map_none,Option.isSome_none,Bool.false_eq_true,if_false,size_bytes,k1,Sem.run_pure]
   ·cases hv
  ·-- a list
   rename_i elem esz ag oI z k sz es hk hx;rw [hx] at rx;rw [hk] at e5;obtain ⟨ie,ue,rfl,f1,f2,f3,f4,f5,f6⟩:=dF e5;split at hv
   ·rename_i fb;split at hv
    ·rename_i c p q hb;injection hv with hv;injection hv with h1 h2;subst h1; subst h2;have dH:Rel R w (.list k sz es) (a.eval x):=rx;generalize fD:a.eval x=xv at dH;cases dH with
     |jD=>
      obtain ⟨k1,k2,k3⟩:=dX (E:=E) true (Nat.le_refl _) rl rh hb;simp only [List.length_nil,Nat.le_zero_eq] at k3;subst k3;have:p=0:=by omega
      subst this;refine ao h (c:=.slice none 0 0) ?_ ?_
      ·simp only [execOp,ho,Instr.sliceAt,Sem.run_bind,run_underlying e2,Result.andThen_ok,Instr.slice,fD,Option.map_none];simp only [List.length_nil] at k1;simp [k1,run_sizeOf w f1]
      ·exact Rel.jD
     |jl=>
      obtain ⟨k1,k2,k3⟩:=dX (E:=E) true (Nat.le_refl _) rl rh hb;simp only [List.length_nil,Nat.le_zero_eq] at k3;subst k3;have:p=0:=by omega
      subst this;refine ao h (c:=.slice none 0 0) ?_ ?_
      ·simp only [execOp,ho,Instr.sliceAt,Sem.run_bind,run_underlying e2,Result.andThen_ok,Instr.slice,fD,Option.map_none];simp only [List.length_nil] at k1;simp [k1,run_sizeOf w f1]
      ·exact Rel.jl
     | @nj _ ad=>
      obtain ⟨k1,k2,k3⟩:=dX (E:=E) true (Nat.le_refl _) rl rh hb;simp only [List.length_nil,Nat.le_zero_eq] at k3;subst k3;have:p=0:=by omega
      subst this;refine ao h (c:=.slice (some ad) 0 0) ?_ ?_
      ·simp only [execOp,ho,Instr.sliceAt,Sem.run_bind,run_underlying e2,Result.andThen_ok,Instr.slice,fD,Option.map_none];simp only [List.length_nil] at k1;simp [k1,run_sizeOf w f1]
      ·exact Rel.nj
     |kL h0 h00=>
      obtain ⟨k1,k2,k3⟩:=dX (E:=E) true (Nat.le_refl _) rl rh hb;simp only [List.length_nil,Nat.le_zero_eq] at k3;subst k3;have:p=0:=by omega
      subst this;refine ao h (c:=.slice none 0 0) ?_ ?_
      ·simp only [execOp,ho,Instr.sliceAt,Sem.run_bind,run_underlying e2,Result.andThen_ok,Instr.slice,fD,Option.map_none];simp only [List.length_nil] at k1;simp [k1,run_sizeOf w f1]
      ·exact Rel.jl
     |mD h0 h00=>
      obtain ⟨k1,k2,k3⟩:=dX (E:=E) true (Nat.le_refl _) rl rh hb;simp only [List.length_nil,Nat.le_zero_eq] at k3;subst k3;have:p=0:=by omega
      subst this;refine ao h (c:=.slice none 0 0) ?_ ?_
      ·simp only [execOp,ho,Instr.sliceAt,Sem.run_bind,run_underlying e2,Result.andThen_ok,Instr.slice,fD,Option.map_none];simp only [List.length_nil] at k1;simp [k1,run_sizeOf w f1]
      ·exact Rel.jl
     | @list _ _ _ b o' len cap hr hlen gC IY=>
      subst hlen;obtain ⟨k1,k2,k3⟩:=dX (E:=E) true gC rl rh hb;have W2:es≠[]→sz=esz:=fun cz=>by
       simp only [Bool.or_eq_true] at fb;rcases fb with hc|hc
       ·exact Nat.eq_of_beq_eq_true hc
       ·simp at hc; exact absurd hc cz
      have bB:(execOp a.eval o).run E.P w=.ok (.value (.slice (if cap=p then some ⟨b,o',none⟩ else some ⟨b,o'+p * esz,none⟩) (q - p) (cap - p))) w:=by
       simp only [execOp,ho,Instr.sliceAt,Sem.run_bind,run_underlying e2,Result.andThen_ok,Instr.slice,fD,Option.map_none,k1,run_sizeOf w f1,f2,Sem.run_pure,Option.map_some,cr]
      have vK:∀ b2 o2,Cd R (match k with | .nil=>LK.nil | .full=>(match h' with | none=>LK.full | some _=>LK.ea) | _=>LK.ea) b2 o2 (q - p) (cap - p):=by
       intro b2 o2;cases k with
       |nil=>exact IY.elim
       |ea=>trivial
       |own id=>trivial
       |bc id j=>trivial
       |full=>
        have hc:cap=es.length:=IY;cases h' with
        |some _=>trivial
        |none=>
         have hq:q=es.length:=by
          unfold Ca at hb;simp only at hb;split at hb
          ·cases hb
          ·injection hb with hb;injection hb with _ hb;injection hb with _ hb;exact hb.symm
         show cap - p=q - p;omega
      by_cases N8:cap=p
      ·refine ao h (c:=.slice (some ⟨b,o',none⟩) (q - p) (cap - p)) (by rw [bB,if_pos N8]) ?_;have he:jC p q es=[]:=List.eq_nil_of_length_eq_zero (by rw [pX k3]; omega);exact Rel.list (by rw [he]; exact .nil) (by rw [pX k3]) (by omega) (vK _ _)
      ·refine ao h (c:=.slice (some ⟨b,o'+p * esz,none⟩) (q - p) (cap - p)) (by rw [bB,if_neg N8]) ?_;refine Rel.list ?_ (by rw [pX k3]) (by omega) (vK _ _);by_cases cz:es=[]
       ·subst cz;simp [jC];exact .nil
       ·have:=W2 cz;subst this;exact uU p (uV q hr)
    ·cases hv
   ·cases hv
  ·-- a heap slice
   rename_i elem esz ag oI z id off sz len cap hk hx;rw [hx] at rx;rw [hk] at e5;obtain ⟨ie,ue,rfl,f1,f2,f3,f4,f5,f6⟩:=dF e5;split at hv
   ·rename_i fb;have fb:=Nat.eq_of_beq_eq_true fb;subst fb;split at hv
    ·rename_i c p q hb;injection hv with hv;injection hv with h1 h2;subst h1; subst h2;have dH:Rel R w (.jB id off sz len cap) (a.eval x):=rx;generalize fD:a.eval x=xv at dH;cases dH with
     | @jB _ _ _ _ _ b hbk gC=>
      obtain ⟨k1,k2,k3⟩:=dX (E:=E) true gC rl rh hb;refine ao h (c:=.slice (some ⟨b,bif Nat.beq cap p then off else off+p * sz,none⟩) (q - p) (cap - p)) ?_ (Rel.jB hbk (by omega));have hb:(bif Nat.beq cap p then off else off+p * sz)=if cap=p then off else off+p * sz:=by
       by_cases e:cap=p
       ·rw [if_pos e,e,show Nat.beq p p=true from Nat.beq_refl p]; rfl
       ·rw [if_neg e];cases hq:Nat.beq cap p with
        |true=>exact absurd (Nat.eq_of_beq_eq_true hq) e
        |false=>rfl
      rw [hb];simp only [execOp,ho,Instr.sliceAt,Sem.run_bind,run_underlying e2,Result.andThen_ok,Instr.slice,fD,Option.map_none,k1,run_sizeOf w f1,f2,Sem.run_pure,Option.map_some,cr];split <;> rfl
    ·cases hv
   ·cases hv
  ·-- a slice that grows
   rename_i elem esz ag oI z id f' off sz len hk hx;rw [hx] at rx;rw [hk] at e5;obtain ⟨ie,ue,rfl,f1,f2,f3,f4,f5,f6⟩:=dF e5;split at hv
   ·rename_i fb;have fb:=Nat.eq_of_beq_eq_true fb;subst fb;split at hv
    ·rename_i c p q hb;injection hv with hv;injection hv with h1 h2;subst h1; subst h2;have dH:Rel R w (.cZ id f' off sz len) (a.eval x):=rx;generalize fD:a.eval x=xv at dH;cases dH with
     |jE h0 h00=>
      obtain ⟨k1,k2,k3⟩:=dX (E:=E) true (Nat.le_refl _) rl rh hb;simp only [Nat.le_zero_eq] at k3;subst k3;have:p=0:=by omega
      subst this;refine ao h (c:=.slice none 0 0) ?_ ?_
      ·simp only [execOp,ho,Instr.sliceAt,Sem.run_bind,run_underlying e2,Result.andThen_ok,Instr.slice,fD,Option.map_none];simp [k1,run_sizeOf w f1]
      ·exact Rel.jE h0 h00
     | @cZ _ _ _ _ _ cap b o' ro bn fa gC=>
      obtain ⟨k1,k2,k3⟩:=dX (E:=E) true gC rl rh hb;have bB:(execOp a.eval o).run E.P w=.ok (.value (.slice (if cap=p then some ⟨b,o',none⟩ else some ⟨b,o'+p * sz,none⟩) (q - p) (cap - p))) w:=by
       simp only [execOp,ho,Instr.sliceAt,Sem.run_bind,run_underlying e2,Result.andThen_ok,Instr.slice,fD,Option.map_none,k1,run_sizeOf w f1,f2,Sem.run_pure,Option.map_some,cr]
      have hgs:∀ o2,(o2=o'+p * sz∨cap=p)→IS b o2 f' (off+p) sz (cap - p) ro:=fun o2 h2=>by
       cases ro with
       |none=>trivial
       |bz=>exact fa.elim
       |bK _=>exact fa.elim
       |bc _=>exact fa.elim
       |tok f1 b1 c1=>
        refine ⟨fa.1,fun e=>?_⟩;obtain ⟨q1,q2,q3⟩:=fa.2 e;refine ⟨q1,by omega,?_⟩;rcases h2 with h2|h2
        ·rcases q3 with q3|q3
         ·exact .inl (by rw [h2,q3,Nat.add_mul])
         ·exact .inr (by omega)
        ·exact .inr (by omega)
      by_cases N8:cap=p
      ·exact ao h (c:=.slice (some ⟨b,o',none⟩) (q - p) (cap - p)) (by rw [bB,if_pos N8]) (Rel.cZ bn (hgs _ (.inr N8)) (by omega))
      ·exact ao h (c:=.slice (some ⟨b,o'+p * sz,none⟩) (q - p) (cap - p)) (by rw [bB,if_neg N8]) (Rel.cZ bn (hgs _ (.inl rfl)) (by omega))
    ·cases hv
   ·cases hv
  ·-- an array that never changes again
   rename_i len esz ag cs hk hx;rw [hx] at rx;rw [hk] at e5;obtain ⟨e,ie,ue,rfl,f1,f2,f3,f4⟩:=pU e5;split at hv
   ·split at hv
    ·rename_i cm;simp only [Bool.and_eq_true] at cm;obtain ⟨⟨⟨c1,c2⟩,c3⟩,c4⟩:=cm;injection hv with hv;injection hv with _ h2;subst h2;have dH:Rel R w (.ep cs) (a.eval x):=rx;generalize fD:a.eval x=xv at dH;cases dH with
     | @ep _ b o' hr=>
     obtain ⟨k1,_,_⟩:=dX (E:=E) (w:=w) (R:=R) (β:=β) (l:=0) (h:=len) false (Nat.le_refl len) rl rh rfl;refine ao h (c:=.slice (some ⟨b,o',none⟩) len len) ?_ (Rel.list (Hz c3 len hr (Nat.le_of_ble_eq_true c1) c4) (rL _ _ _ _).symm (Nat.le_refl _) rfl);simp only [execOp,ho,Instr.sliceAt,Sem.run_bind,run_underlying e2,Result.andThen_ok,fD,Instr.sureAddr,Option.map_none,k1,run_sizeOf w f1,f2,Sem.run_pure];by_cases wI:len=0
     ·subst wI;simp
     ·simp [wI,cr]
    ·cases hv
   ·cases hv
  ·cases hv
 ·cases hv
theorem Ck (h:aX E R w β s a) (t:TypeId) (ho:o.op=.makeMap t none):bH E R w β s a o ((s.dW (.map [])).put o.dst (.v (.map s.G.length))):=by
 have iB:gX (R.add (.bK w.heap.size)) (w.alloc (.map #[] 0)) (.map []) (.bK w.heap.size):=⟨#[],0,heap_alloc_new w _,trivial,rfl,fun i e he=>by simp at he⟩;refine ⟨_,.map (some w.heap.size),w.alloc (.map #[] 0),R.add (.bK w.heap.size),β,?_,.inl rfl,(h.lD (.map #[] 0) (.map []) (.bK w.heap.size) (by exact fun _ h=>h) iB).put o.dst (x:=.v (.map s.G.length)) (Rel.map (gr h _)),by rw [aT]; exact cQ h _ _ (by exact fun _ h=>h)⟩;simp only [execOp,ho,Instr.makeMap,Option.map_none,Sem.run_bind,run_newObj,Result.andThen_ok,Sem.run_pure];rfl
theorem nt (h:aX E R w β s a) (t:TypeId) (x y:Operand) (ho:o.op=.makeSlice t x y) {i:TI} (hi:E.ti t=some i) {k k':IntKind} {n m:Int} (hx:bw E s.ae x=.v (.int k n)) (hy:bw E s.ae y=.v (.int k' m))
  {elem esz oI:Nat} {ag:Bool} {z:AV} (hk:i.k=.sl elem esz ag oI (some z)) (hz:z.cells.length=esz) (FF:1≤esz) (pK:z.aS=true) (hc:0≤n∧n≤m∧m≤140737488355328∧m * oI≤140737488355328) :
  ∃ us,aL R w (aw (List.replicate m.toNat z)) us∧(∀ v∈us,v.oneCell'=true)∧(execOp a.eval o).run E.P w=.ok (.value (.slice (some ⟨w.heap.size,0,none⟩) n.toNat m.toNat)) (w.alloc (.cells ⟨us⟩ elem)):=by
 have rx:=aQ h x;have ry:=aQ h y;rw [hx] at rx;rw [hy] at ry;have dH:Rel R w (.int k n) (a.eval x):=rx;have pJ:Rel R w (.int k' m) (a.eval y):=ry;generalize fD:a.eval x=xv at dH;generalize V1:a.eval y=yv at pJ;cases dH;cases pJ;obtain ⟨c1,c2,c3,c4⟩:=hc;obtain ⟨gY,u,e1,e2,e3,e4,e5,e6⟩:=bT E hi;rw [hk] at e5;obtain ⟨ie,ue,rfl,f1,f2,f3,f4,f5,f6⟩:=dF e5;obtain ⟨zc,pD,E4⟩:=dE f6;have Qz:=E4 R w;obtain ⟨d1,d2⟩:=Rel.cells Qz pK;have tc:zc.cells.size=esz:=by rw [← hz,d1.length]; simp
 obtain ⟨z1,z2⟩:=nN Qz pK m.toNat;have xY:((Array.range (m.toNat * esz)).map fun i=>zc.cells[i % zc.cells.size]!)=⟨(List.replicate m.toNat zc.cells.toList).flatten⟩:=by
  apply Array.ext';rw [← tc];exact pW zc.cells m.toNat
 have wn:IntKind.i64.wrap n=n:=IntWalk.i64_in n (by omega);have wm:IntKind.i64.wrap m=m:=IntWalk.i64_in m (by omega);have bB:(Instr.makeSlice t (.int k n) (.int k' m)).run E.P w=.ok (.slice (some ⟨w.heap.size,0,none⟩) n.toNat m.toNat) (w.alloc (.cells ⟨(List.replicate m.toNat zc.cells.toList).flatten⟩ elem)):=by
  have hby:(ie.bytes:Int) * m≤281474976710656:=by rw [f3,Int.mul_comm]; omega
  have W3:¬ 281474976710656 < (ie.bytes:Int) * m:=by omega
  have h1:¬ m < 0:=by omega
  have h2:¬ n < 0:=by omega
  have h3:¬ m < n:=by omega
  have RZ:(typeInfo elem).run E.P w=.ok ie w:=by simp [typeInfo,f1]
  by_cases h0:m.toNat * esz=0
  ·have hm0:m.toNat=0:=by
    rcases Nat.mul_eq_zero.1 h0 with h0|h0 <;> omega
   have Dx:∀ f:Nat→Value,Array.map f (Array.range 0)=#[]:=fun f=>by simp
   simp [Instr.makeSlice,run_underlying e2,asInt,asIntOf,RZ,wn,wm,h1,h2,h3,W3,run_sizeOf w f1,f2,hm0,newRow];rw [Dx]
  ·simp [Instr.makeSlice,run_underlying e2,asInt,asIntOf,RZ,wn,wm,h1,h2,h3,W3,run_sizeOf w f1,f2,h0,iC w f1 pD,newRow];rw [← xY]
 refine ⟨_,z1,z2,?_⟩;simp only [execOp,ho,fD,V1,Sem.run_bind,bB,Result.andThen_ok,Sem.run_pure]
theorem xZ (h:aX E R w β s a) (t:TypeId) (x y:Operand) (ho:o.op=.makeSlice t x y) {i:TI} (hi:E.ti t=some i) {k k':IntKind} {n m:Int} (hx:bw E s.ae x=.v (.int k n)) (hy:bw E s.ae y=.v (.int k' m))
  {elem esz oI:Nat} {ag:Bool} {z:AV} (hk:i.k=.sl elem esz ag oI (some z)) (hz:z.cells.length=esz) (FF:1≤esz) (pK:z.aS=true) (hc:0≤n∧n≤m∧m≤140737488355328∧m * oI≤140737488355328) :
  bH E R w β s a o ((s.dW (.row (aw (List.replicate m.toNat z)) elem)).put o.dst (.v (.jB s.G.length 0 esz n.toNat m.toNat))):=by
 obtain ⟨us,z1,z2,bB⟩:=nt h t x y ho hi hx hy hk hz FF pK hc;have e:=gZ (R:=R) (w:=w) h.g.wf (.cells ⟨us⟩ elem) (.bK w.heap.size);have iB:gX (R.add (.bK w.heap.size)) (w.alloc (.cells ⟨us⟩ elem)) (.row (aw (List.replicate m.toNat z)) elem) (.bK w.heap.size):=
  ⟨_,heap_alloc_new w _,z1.mono e,z2,fun o' hi=>by have:=h.g.wf _ _ hi; omega⟩
 exact ⟨_,.slice (some ⟨w.heap.size,0,none⟩) n.toNat m.toNat,_,R.add (.bK w.heap.size),β,bB,.inl rfl,(h.lD _ _ (.bK w.heap.size) (by exact fun _ h=>h) iB).put o.dst (x:=.v (.jB s.G.length 0 esz n.toNat m.toNat)) (Rel.jB (gr h _) (by omega)),by rw [aT]; exact cQ h _ _ (by exact fun _ h=>h)⟩
end ops
end Go.Am
namespace Go.Am
open Go
section ops
variable {E:Env} {R:ai} {w:World} {β:Nat→Nat} {s:St} {a:Act} {o:Oper}
theorem lG (x:Array Operand) (f:Operand→Value):x.map f=⟨x.toList.map f⟩:=Array.ext' (by simp)
theorem eh {b:Builtin} {args:Array Operand} {tys:Array TypeId} (ho:o.op=.call { callee:=.builtin b,args:=args,argTypes:=tys }) (vs:List Value) (hv:args.toList.map a.eval=vs) :
  (execOp a.eval o).run E.P w=(builtin b tys o.type (args.map fun | .const _=>true | _=>false) ⟨vs⟩).run E.P w:=by
 simp only [execOp,ho,resolve,Sem.run_bind,Sem.run_pure,Result.andThen_ok,invoke,lG args a.eval,hv];rfl
theorem dO.length:∀ {l:List (AV × AV)} {es:List MapEntry},dO R w l es→l.length=es.length
 |[],[],_=>rfl
 |_ :: _,_ :: _,h=>by simp [dO.length h.2.2]
 |[],_ :: _,h=>h.elim
 |_ :: _,[],h=>h.elim
theorem K0 (h:aX E R w β s a) {args:Array Operand} {tys:List TypeId} (ho:o.op=.call { callee:=.builtin .len,args:=args,argTypes:=⟨tys⟩ }) {l:List AV} (hl:nf E s.ae args.toList=some l) {s':St} (hs:bQ E s o.dst .len l tys=some (true,s')) :
  bH E R w β s a o s':=by
 have hr:=gu h hl;generalize hv:args.toList.map a.eval=vs at hr;have hx:=eh (E:=E) (w:=w) ho vs hv;unfold bQ at hs;split at hs <;> first | (rename_i h1; cases h1; done) | skip
 ·rename_i x;cases hr with
  |cons h0 h1=>
  cases h1;split at hs
  ·rename_i t tl;split at hs
   ·rename_i i hi;obtain ⟨gY,u,e1,e2,e3,e4,e5,e6⟩:=bT E hi;split at hs
    ·rename_i bs hk;cases hs;cases h0;rw [hk] at e5;have:=lE e5;subst this;refine ao h (c:=.int .i64 bs.length) ?_ (Rel.int _ _);rw [hx];simp [builtin,Builtin.len_,run_underlying e2,goInt,size_bytes]
    ·rename_i kk sz es hk;cases hs;rw [hk] at e5;obtain ⟨ie,ue,rfl,_⟩:=dF e5;refine ao h (c:=.int .i64 es.length) ?_ (Rel.int _ _);rw [hx];cases h0 with
     |jD=>simp [builtin,Builtin.len_,run_underlying e2,goInt]
     |jl=>simp [builtin,Builtin.len_,run_underlying e2,goInt]
     |nj=>simp [builtin,Builtin.len_,run_underlying e2,goInt]
     |kL=>simp [builtin,Builtin.len_,run_underlying e2,goInt]
     |mD=>simp [builtin,Builtin.len_,run_underlying e2,goInt]
     |list _ hlen _ _=>subst hlen; simp [builtin,Builtin.len_,run_underlying e2,goInt]
    ·rename_i id off sz len cap hk;cases hs;rw [hk] at e5;obtain ⟨ie,ue,rfl,_⟩:=dF e5;refine ao h (c:=.int .i64 len) ?_ (Rel.int _ _);rw [hx];cases h0;simp [builtin,Builtin.len_,run_underlying e2,goInt]
    ·rename_i id f' off sz len hk;cases hs;rw [hk] at e5;obtain ⟨ie,ue,rfl,_⟩:=dF e5;refine ao h (c:=.int .i64 len) ?_ (Rel.int _ _);rw [hx];cases h0 <;> simp [builtin,Builtin.len_,run_underlying e2,goInt]
    ·rename_i n esz ag hk;cases hs;rw [hk] at e5;obtain ⟨e,ie,ue,rfl,_⟩:=pU e5;refine ao h (c:=.int .i64 n) ?_ (Rel.int _ _);rw [hx];simp [builtin,Builtin.len_,run_underlying e2,goInt]
    ·rename_i hk;cases hs;rw [hk] at e5;obtain ⟨rfl,_⟩:=nK e5;refine ao h (c:=.int .i64 0) ?_ (Rel.int _ _);rw [hx];cases h0;simp [builtin,Builtin.len_,run_underlying e2,goInt]
    ·rename_i id hk;split at hs
     ·rename_i es hg;cases hs;rw [hk] at e5;obtain ⟨rfl,_⟩:=nK e5;cases h0 with
      | @map _ b hb=>
      obtain ⟨aD,clock,g1,g2,g3⟩:=h.g.obj id _ _ hg hb;refine ao h (c:=.int .i64 es.length) ?_ (Rel.int _ _);rw [hx];have iB:(getObj b).run E.P w=.ok (.map aD clock) w:=by simp [getObj,Sem.run,g1]
      simp [builtin,Builtin.len_,run_underlying e2,goInt,iB,g2.length]
     ·cases hs
    ·cases hs
   ·cases hs
  ·cases hs
 ·cases hs
theorem HA {b:Bool}:∀ {l:List AV} {x v:AV} {c:Value} {cs:List Value},Rel R w x c→aL R w l cs→IN x l=some v→∃ c',(cs.foldlM Builtin.max2 c).run E.P w=.ok c' w∧Rel R w v c'
 |[],x,v,c,cs,hr,hl,hv=>by
  cases hl;simp only [IN] at hv;cases hv;exact ⟨c,rfl,hr⟩
 |y :: l,x,v,c,cs,hr,hl,hv=>by
  cases hl with
  |cons hy hl=>
  unfold IN at hv;split at hv
  ·rename_i jW; cases jW
  ·rename_i k n k' m l' jW;cases jW;split at hv
   ·rename_i hk;subst hk;cases hr;cases hy;obtain ⟨c',h1,h2⟩:=HA (b:=b) (Rel.int k (if m > n then m else n)) hl hv;refine ⟨c',?_,h2⟩;simp only [List.foldlM_cons,Sem.run_bind,Builtin.max2,Sem.run_pure,Result.andThen_ok];exact h1
   ·cases hv
  ·cases hv
theorem Cl {b:Bool}:∀ {l:List AV} {x v:AV} {c:Value} {cs:List Value},Rel R w x c→aL R w l cs→Fo x l=some v→∃ c',(cs.foldlM Builtin.min2 c).run E.P w=.ok c' w∧Rel R w v c'
 |[],x,v,c,cs,hr,hl,hv=>by
  cases hl;simp only [Fo] at hv;cases hv;exact ⟨c,rfl,hr⟩
 |y :: l,x,v,c,cs,hr,hl,hv=>by
  cases hl with
  |cons hy hl=>
  unfold Fo at hv;split at hv
  ·rename_i jW; cases jW
  ·rename_i k n k' m l' jW;cases jW;split at hv
   ·rename_i hk;subst hk;cases hr;cases hy;obtain ⟨c',h1,h2⟩:=Cl (b:=b) (Rel.int k (if m < n then m else n)) hl hv;refine ⟨c',?_,h2⟩;simp only [List.foldlM_cons,Sem.run_bind,Builtin.min2,Sem.run_pure,Result.andThen_ok];exact h1
   ·cases hv
  ·rename_i n m l' jW;cases jW;cases hr;cases hy;obtain ⟨c',h1,h2⟩:=Cl (b:=b) (Rel.str (bif Op.bytesLess n m || n == m then n else m)) hl hv;refine ⟨c',?_,h2⟩;have e:(Builtin.min2 (.string ⟨⟨n⟩⟩) (.string ⟨⟨m⟩⟩)).run E.P w=.ok (.string ⟨⟨bif Op.bytesLess n m || n == m then n else m⟩⟩) w:=by
    simp only [Builtin.min2,Op.stringOp,Sem.run_bind,Sem.run_pure,Result.andThen_ok];show Result.andThen ((asBool _).run E.P w) _=_;cases hb:(Op.bytesLess n m || n == m) <;> simp_all [asBool]
   simp only [List.foldlM_cons,Sem.run_bind,e,Result.andThen_ok];exact h1
  ·cases hv
theorem K1 (h:aX E R w β s a) {args:Array Operand} {tys:Array TypeId} (ho:o.op=.call { callee:=.builtin .max,args:=args,argTypes:=tys }) {x v:AV} {l:List AV} (hl:nf E s.ae args.toList=some (x :: l)) (hm:IN x l=some v) :
  bH E R w β s a o (s.put o.dst (.v v)):=by
 have hr:=gu h hl;generalize hv:args.toList.map a.eval=vs at hr;have hx:=eh (E:=E) (w:=w) ho vs hv;cases hr with
 |cons h0 h1=>
 obtain ⟨c',k1,k2⟩:=HA (E:=E) (b:=true) h0 h1 hm;refine ao h (c:=c') ?_ k2;rw [hx];simp [builtin,Builtin.max_,k1]
theorem K2 (h:aX E R w β s a) {args:Array Operand} {tys:Array TypeId} (ho:o.op=.call { callee:=.builtin .min,args:=args,argTypes:=tys }) {x v:AV} {l:List AV} (hl:nf E s.ae args.toList=some (x :: l)) (hm:Fo x l=some v) :
  bH E R w β s a o (s.put o.dst (.v v)):=by
 have hr:=gu h hl;generalize hv:args.toList.map a.eval=vs at hr;have hx:=eh (E:=E) (w:=w) ho vs hv;cases hr with
 |cons h0 h1=>
 obtain ⟨c',k1,k2⟩:=Cl (E:=E) (b:=true) h0 h1 hm;refine ao h (c:=c') ?_ k2;rw [hx];simp [builtin,Builtin.min_,k1]
end ops
end Go.Am
namespace Go.Am
open Go
section ops
variable {E:Env} {R:ai} {w:World} {β:Nat→Nat} {s:St} {a:Act} {o:Oper}
def ai.upto (R:ai) (g n:Nat) (obj:List RO):ai:=⟨fun b o=>R.I b o∨(b=g∧o < n),obj⟩
theorem aB {l:List RO} {id i:Nat} {x r y:RO} (afi:nth l id=some y) (h:nth (aq l id x) i=some r):(i=id∧r=x)∨(i≠id∧nth l i=some r):=by
 rcases dZ h with ⟨rfl,rfl,_⟩|⟨cz,h⟩
 ·exact .inl ⟨rfl,rfl⟩
 ·exact .inr ⟨Ne.symm cz,h⟩
theorem FH (wf:∀ b o,R.I b o→b < w.heap.size) (x:Obj) (n:Nat) (ro:RO):Ext R w (R.upto w.heap.size n (R.obj++[ro])) (w.drew.alloc x):=
 ⟨fun _ _ h=>.inl h,fun b o h=>bP (heap_alloc_old w.drew x b (wf b o h)) o,fun _ r h=>⟨r,bA h,cp.refl r⟩,.old fun b hb=>heap_alloc_old w.drew x b hb⟩
theorem FI (wf:∀ b o,R.I b o→b < w.heap.size) (x:Obj) {n id m:Nat} {r0:RO} (hid:nth R.obj id=some r0) (b' c':Nat) (bO:cp r0 (.tok m b' c' 0)):Ext R w (R.upto w.heap.size n (aq R.obj id (.tok m b' c' 0))) (w.drew.alloc x):=
 ⟨fun _ _ h=>.inl h,fun b o h=>bP (heap_alloc_old w.drew x b (wf b o h)) o,fun i r h=>by
  by_cases e:id=i
  ·subst e;rw [hid] at h;cases h;exact ⟨_,ay hid,bO⟩
  ·exact ⟨r,by rw [ai.upto,a8 e]; exact h,cp.refl r⟩,.old fun b hb=>heap_alloc_old w.drew x b hb⟩
theorem aX.R6 (h:aX E R w β s a) {cur:Array Value} {elem:TypeId} {n sz cap:Nat} (hn:n≤cap) (hm:cap≤maxLen) (hs:cur.size=cap * sz) :
  aX E (R.upto w.heap.size (n * sz) (R.obj++[.tok n w.heap.size cap 0])) (w.drew.alloc (.cells cur elem)) β (s.dW (.tok n sz elem)) a ∧
  Step R w β s.boxes (R.upto w.heap.size (n * sz) (R.obj++[.tok n w.heap.size cap 0])) (w.drew.alloc (.cells cur elem)) β s.boxes:=by
 have e:=FH (R:=R) (w:=w) h.g.wf (.cells cur elem) (n * sz) (.tok n w.heap.size cap 0);have old:∀ b,b < w.heap.size→(w.drew.alloc (.cells cur elem)).heap[b]?=w.heap[b]?:=fun b hb=>heap_alloc_old w.drew _ b hb
 have new:(w.drew.alloc (.cells cur elem)).heap[w.heap.size]?=some (.cells cur elem (0,0)):=heap_alloc_new w.drew _;have hI:∀ b o,b < w.heap.size→(R.upto w.heap.size (n * sz) (R.obj++[.tok n w.heap.size cap 0])).I b o→R.I b o:=fun b o hb hi=>by
  rcases hi with hi|⟨hi,_⟩
  ·exact hi
  ·omega
 refine ⟨⟨⟨by simp [St.dW,ai.upto,h.g.len],fun id g r h1 h2=>?_,fun i j ri rj b h1 h2 b1 b2=>?_,fun b o hi=>?_,fun g cs hg=>(h.g.dV g cs hg).mono e,by first | exact h.g.lo | exact Nat.le_succ_of_le h.g.lo⟩,?_,h.t.mono e,h.n,h.d.mono e⟩,?_⟩
 ·rcases aj h2 with h2|⟨h3,rfl⟩
  ·have bO:=bi h2;rw [h.g.len] at bO;rcases aj h1 with h1|⟨h4,_⟩
   ·exact (h.g.obj id g r h1 h2).mono e (fun b hb=>old b (h.g.bS ⟨id,r,h2,hb⟩)) (fun b o hb=>hI b o (h.g.bS ⟨id,r,h2,hb⟩))
   ·omega
  ·rcases aj h1 with h1|⟨h4,rfl⟩
   ·have:=bi h1;rw [h3,h.g.len] at this;omega
   ·refine ⟨rfl,cur,new,hn,hm,by omega,fun o' sb hi=>?_⟩;rcases hi with hi|⟨_,hi⟩
    ·have:=h.g.wf _ _ hi;omega
    ·omega
 ·rcases aj h1 with g1|⟨h3,e1⟩
  ·rcases aj h2 with g2|⟨h4,e2⟩
   ·exact h.g.inj i j ri rj b g1 g2 b1 b2
   ·have:=h.g.bS ⟨i,ri,g1,b1⟩;rw [e2] at b2;simp [RO.has] at b2;omega
  ·rcases aj h2 with g2|⟨h4,e2⟩
   ·have:=h.g.bS ⟨j,rj,g2,b2⟩;rw [e1] at b1;simp [RO.has] at b1;omega
   ·omega
 ·rcases hi with hi|⟨rfl,_⟩
  ·have:=h.g.wf b o hi;simp;omega
  ·simp
 ·refine h.b.aZ e (fun k cs hk=>old _ (h.eg (.inr ⟨k,cs,hk,rfl⟩))) (fun k cs o hk=>hI _ o (h.eg (.inr ⟨k,cs,hk,rfl⟩))) (fun k cs hk hl=>?_);rcases kd (R:=R) (ro:=.tok n w.heap.size cap 0) hl with hl|hl
  ·exact hl
  ·have:=h.eg (.inr ⟨k,cs,hk,rfl⟩);simp [RO.has] at hl;omega
 ·refine ⟨e,rfl,rfl,rfl,by simp,fun b hb _=>old b hb,fun b hb ho=>?_,fun b o hi hb _=>hI b o hb hi⟩;rcases ho with ho|ho
  ·rcases kd (R:=R) (ro:=.tok n w.heap.size cap 0) ho with ho|ho
   ·exact .inl ho
   ·simp [RO.has] at ho;omega
  ·exact .inr ho
theorem Dy (wf:∀ b o,R.I b o→b < w.heap.size) (x:Obj) (n:Nat) (ro:RO):Ext R w (R.upto w.heap.size n (R.obj++[ro])) (w.alloc x):=
 ⟨fun _ _ h=>.inl h,fun b o h=>bP (heap_alloc_old w x b (wf b o h)) o,fun _ r h=>⟨r,bA h,cp.refl r⟩,.old fun b hb=>heap_alloc_old w x b hb⟩
theorem aX.N9 (h:aX E R w β s a) {cur:Array Value} {elem:TypeId} {n sz cap:Nat} (hn:n≤cap) (hm:cap≤maxLen) (hs:cur.size=cap * sz) :
  aX E (R.upto w.heap.size (n * sz) (R.obj++[.tok n w.heap.size cap 0])) (w.alloc (.cells cur elem)) β (s.dW (.tok n sz elem)) a ∧
  Step R w β s.boxes (R.upto w.heap.size (n * sz) (R.obj++[.tok n w.heap.size cap 0])) (w.alloc (.cells cur elem)) β s.boxes:=by
 have e:=Dy (R:=R) (w:=w) h.g.wf (.cells cur elem) (n * sz) (.tok n w.heap.size cap 0);have old:∀ b,b < w.heap.size→(w.alloc (.cells cur elem)).heap[b]?=w.heap[b]?:=fun b hb=>heap_alloc_old w _ b hb
 have new:(w.alloc (.cells cur elem)).heap[w.heap.size]?=some (.cells cur elem (0,0)):=heap_alloc_new w _;have hI:∀ b o,b < w.heap.size→(R.upto w.heap.size (n * sz) (R.obj++[.tok n w.heap.size cap 0])).I b o→R.I b o:=fun b o hb hi=>by
  rcases hi with hi|⟨hi,_⟩
  ·exact hi
  ·omega
 refine ⟨⟨⟨by simp [St.dW,ai.upto,h.g.len],fun id g r h1 h2=>?_,fun i j ri rj b h1 h2 b1 b2=>?_,fun b o hi=>?_,fun g cs hg=>(h.g.dV g cs hg).mono e,by first | exact h.g.lo | exact Nat.le_succ_of_le h.g.lo⟩,?_,h.t.mono e,h.n,h.d.mono e⟩,?_⟩
 ·rcases aj h2 with h2|⟨h3,rfl⟩
  ·have bO:=bi h2;rw [h.g.len] at bO;rcases aj h1 with h1|⟨h4,_⟩
   ·exact (h.g.obj id g r h1 h2).mono e (fun b hb=>old b (h.g.bS ⟨id,r,h2,hb⟩)) (fun b o hb=>hI b o (h.g.bS ⟨id,r,h2,hb⟩))
   ·omega
  ·rcases aj h1 with h1|⟨h4,rfl⟩
   ·have:=bi h1;rw [h3,h.g.len] at this;omega
   ·refine ⟨rfl,cur,new,hn,hm,by omega,fun o' sb hi=>?_⟩;rcases hi with hi|⟨_,hi⟩
    ·have:=h.g.wf _ _ hi;omega
    ·omega
 ·rcases aj h1 with g1|⟨h3,e1⟩
  ·rcases aj h2 with g2|⟨h4,e2⟩
   ·exact h.g.inj i j ri rj b g1 g2 b1 b2
   ·have:=h.g.bS ⟨i,ri,g1,b1⟩;rw [e2] at b2;simp [RO.has] at b2;omega
  ·rcases aj h2 with g2|⟨h4,e2⟩
   ·have:=h.g.bS ⟨j,rj,g2,b2⟩;rw [e1] at b1;simp [RO.has] at b1;omega
   ·omega
 ·rcases hi with hi|⟨rfl,_⟩
  ·have:=h.g.wf b o hi;simp;omega
  ·simp
 ·refine h.b.aZ e (fun k cs hk=>old _ (h.eg (.inr ⟨k,cs,hk,rfl⟩))) (fun k cs o hk=>hI _ o (h.eg (.inr ⟨k,cs,hk,rfl⟩))) (fun k cs hk hl=>?_);rcases kd (R:=R) (ro:=.tok n w.heap.size cap 0) hl with hl|hl
  ·exact hl
  ·have:=h.eg (.inr ⟨k,cs,hk,rfl⟩);simp [RO.has] at hl;omega
 ·refine ⟨e,rfl,rfl,rfl,by simp,fun b hb _=>old b hb,fun b hb ho=>?_,fun b o hi hb _=>hI b o hb hi⟩;rcases ho with ho|ho
  ·rcases kd (R:=R) (ro:=.tok n w.heap.size cap 0) ho with ho|ho
   ·exact .inl ho
   ·simp [RO.has] at ho;omega
  ·exact .inr ho
theorem va (h:aX E R w β s a) (t:TypeId) (len:Nat) (parts:Array (Nat × Operand)) (ho:o.op=.buildSlice t len parts) {k:LK} {esz:Nat} {es:List AV} (hv:bZ E s t len parts.toList=some (.list k esz es)) {i:TI} (hi:E.ti t=some i) {elem bu oI:Nat} {ag:Bool} {z:Option AV} (hk:i.k=.sl elem bu ag oI z) (hm:len≤65536) :
  bH E R w β s a o ((s.dW (.tok len esz elem)).put o.dst (.v (.list (.own s.G.length) esz es))):=by
 obtain ⟨es',RW,us,W4,W1,bB,g2,hlen,u2,u3,i',ag',V3,z',qL,jy⟩:=jm h t len parts ho hv;cases W1;rw [hi] at qL;cases qL;rw [hk] at jy;cases jy;have W5:us.length=len * esz:=by rw [← u2.length,cS g2,hlen]
 obtain ⟨r1,r2⟩:=h.N9 (cur:=⟨us⟩) (elem:=elem) (n:=len) (sz:=esz) (cap:=len) (Nat.le_refl _) (by simp [maxLen]; omega) (by simpa using W5);refine ⟨_,.slice (some ⟨w.heap.size,0,none⟩) len len,_,_,β,bB,.inl rfl,r1.put o.dst (x:=.v (.list (.own s.G.length) esz es)) ?_,by rw [aT]; exact r2⟩;refine Rel.list (lm g2 (fg.make (u2.mono r2.ext) u3 (fun j x hx=>?_) (fun j hj=>.inr ⟨rfl,?_⟩))) hlen.symm (Nat.le_refl _) ⟨.tok len w.heap.size len 0,gr h _,?_⟩
 ·rw [kb (heap_alloc_new w _)];simpa using hx
 ·rw [cS g2,hlen] at hj;omega
 ·exact ⟨Nat.le_refl _,fun _=>⟨rfl,.inl rfl,rfl⟩⟩
theorem aX.K4 (h:aX E R w β s a) {cur:Array Value} {elem e0:TypeId} {n sz cap id f:Nat} {r0:RO} (hg:nth s.G id=some (.tok f sz e0)) (hid:nth R.obj id=some r0) (hf:∀ b c,cp r0 (.tok n b c 0)) (hn:n≤cap) (hm:cap≤maxLen) (hs:cur.size=cap * sz) :
  aX E (R.upto w.heap.size (n * sz) (aq R.obj id (.tok n w.heap.size cap 0))) (w.drew.alloc (.cells cur elem)) β (s.bG (aq s.G id (.tok n sz elem))) a ∧
  Step R w β s.boxes (R.upto w.heap.size (n * sz) (aq R.obj id (.tok n w.heap.size cap 0))) (w.drew.alloc (.cells cur elem)) β s.boxes:=by
 have e:=FI (R:=R) (w:=w) (n:=n * sz) h.g.wf (.cells cur elem) hid w.heap.size cap (hf _ _);have old:∀ b,b < w.heap.size→(w.drew.alloc (.cells cur elem)).heap[b]?=w.heap[b]?:=fun b hb=>heap_alloc_old w.drew _ b hb
 have new:(w.drew.alloc (.cells cur elem)).heap[w.heap.size]?=some (.cells cur elem (0,0)):=heap_alloc_new w.drew _;have hI:∀ b o,b < w.heap.size→(R.upto w.heap.size (n * sz) (aq R.obj id (.tok n w.heap.size cap 0))).I b o→R.I b o:=fun b o hb hi=>by
  rcases hi with hi|⟨hi,_⟩
  ·exact hi
  ·omega
 have live:∀ b,b < w.heap.size→Live (R.upto w.heap.size (n * sz) (aq R.obj id (.tok n w.heap.size cap 0))) b→Live R b:=fun b hb hl=>by
  obtain ⟨i,r,h1,h2⟩:=hl;rcases aB hid h1 with ⟨_,rfl⟩|⟨_,h1⟩
  ·simp [RO.has] at h2;omega
  ·exact ⟨i,r,h1,h2⟩
 refine ⟨⟨⟨by simp [St.bG,ai.upto,h.g.len],fun i gg r h1 h2=>?_,fun i j ri rj b h1 h2 b1 b2=>?_,fun b o hi=>?_,fun g cs hg=>(h.g.dV g cs hg).mono e,by first | exact h.g.lo | exact Nat.le_succ_of_le h.g.lo⟩,?_,h.t.mono e,h.n,h.d.mono e⟩,?_⟩
 ·rcases aB hid h2 with ⟨rfl,rfl⟩|⟨cz,h2⟩
  ·simp only [St.bG] at h1;rw [ay hg] at h1;cases h1;refine ⟨rfl,cur,new,hn,hm,by omega,fun o' sb hi=>?_⟩;rcases hi with hi|⟨_,hi⟩
   ·have:=h.g.wf _ _ hi;omega
   ·omega
  ·simp only [St.bG] at h1;rw [a8 (Ne.symm cz)] at h1;exact (h.g.obj i gg r h1 h2).mono e (fun b hb=>old b (h.g.bS ⟨i,r,h2,hb⟩)) (fun b o hb=>hI b o (h.g.bS ⟨i,r,h2,hb⟩))
 ·rcases aB hid h1 with ⟨g3,e1⟩|⟨g3,g1⟩
  ·rcases aB hid h2 with ⟨g4,e2⟩|⟨g4,g2⟩
   ·omega
   ·have:=h.g.bS ⟨j,rj,g2,b2⟩;rw [e1] at b1;simp [RO.has] at b1;omega
  ·rcases aB hid h2 with ⟨g4,e2⟩|⟨g4,g2⟩
   ·have:=h.g.bS ⟨i,ri,g1,b1⟩;rw [e2] at b2;simp [RO.has] at b2;omega
   ·exact h.g.inj i j ri rj b g1 g2 b1 b2
 ·rcases hi with hi|⟨rfl,_⟩
  ·have:=h.g.wf b o hi;simp;omega
  ·simp
 ·exact h.b.aZ e (fun k cs hk=>old _ (h.eg (.inr ⟨k,cs,hk,rfl⟩))) (fun k cs o hk=>hI _ o (h.eg (.inr ⟨k,cs,hk,rfl⟩))) (fun k cs hk hl=>live _ (h.eg (.inr ⟨k,cs,hk,rfl⟩)) hl)
 ·refine ⟨e,rfl,rfl,rfl,by simp,fun b hb _=>old b hb,fun b hb ho=>?_,fun b o hi hb _=>hI b o hb hi⟩;rcases ho with ho|ho
  ·exact .inl (live b hb ho)
  ·exact .inr ho
theorem aX.Oa (h:aX E R w β s a) {cur:Array Value} {news:List Value} {elem:TypeId} {n sz id f g c k:Nat} (hg:nth s.G id=some (.tok f sz elem)) (hid:nth R.obj id=some (.tok f g c k)) (hf:f < n) (hn:n≤c)
  (jG:w.heap[g]?=some (.cells cur elem (0,0))) (hs:cur.size=k+c * sz) (hm:c≤maxLen) (hl:f * sz+news.length=n * sz) :
  Ext R w (R.upto g (k+n * sz) (aq R.obj id (.tok n g c k))) (w.setRow g (cur.toList.take (k+f * sz)++news++cur.toList.drop (k+f * sz+news.length)).toArray) ∧
  aX E (R.upto g (k+n * sz) (aq R.obj id (.tok n g c k))) (w.setRow g (cur.toList.take (k+f * sz)++news++cur.toList.drop (k+f * sz+news.length)).toArray) β (s.bG (aq s.G id (.tok n sz elem))) a ∧
  Step R w β s.boxes (R.upto g (k+n * sz) (aq R.obj id (.tok n g c k))) (w.setRow g (cur.toList.take (k+f * sz)++news++cur.toList.drop (k+f * sz+news.length)).toArray) β s.boxes:=by
 obtain ⟨_,Dz,QA,_,_,_,lH⟩:=h.g.obj id _ _ hg hid;rw [jG] at QA;cases QA;have hle:n * sz≤c * sz:=Nat.mul_le_mul_right _ hn;generalize oJ:(cur.toList.take (k+f * sz)++news++cur.toList.drop (k+f * sz+news.length)).toArray=cur2;have old:∀ b,b≠g→(w.setRow g cur2).heap[b]?=w.heap[b]?:=fun b hb=>setRow_other w g b cur2 hb
 have new:(w.setRow g cur2).heap[g]?=some (.cells cur2 elem (0,0)):=setRow_heap w g cur cur2 elem (0,0) jG;have hlen:k+f * sz≤cur.toList.length:=by simp; omega
 have fb:cur2.size=k+c * sz:=by
  rw [← oJ];simp;omega
 have wM:Live R g:=⟨id,_,hid,rfl⟩;have e:Ext R w (R.upto g (k+n * sz) (aq R.obj id (.tok n g c k))) (w.setRow g cur2):=by
  refine ⟨fun _ _ hi=>.inl hi,fun b o hi=>?_,fun i r hr=>?_,fun b r hb=>⟨r,(old b fun e=>by subst e; rw [jG] at hb; cases hb).trans hb,rfl,rfl,rfl,rfl,rfl⟩⟩
  ·by_cases hb:b=g
   ·subst hb;have ho:o < k+f * sz:=Nat.lt_of_not_le fun hle=>lH o hle hi
    simp only [World.cell?,new,jG];have:cur2[o]?=cur[o]?:=by
     rw [← oJ,List.append_assoc];simp only [List.getElem?_toArray];rw [List.getElem?_append_left (by simp; omega),List.getElem?_take,if_pos ho,Array.getElem?_toList]
    simp [this]
   ·exact bP (old b hb) o
  ·by_cases ei:id=i
   ·subst ei;rw [hid] at hr;cases hr;exact ⟨_,ay hid,by omega,fun e=>by omega⟩
   ·exact ⟨r,by rw [ai.upto,a8 ei]; exact hr,cp.refl r⟩
 have hI:∀ b o,b≠g→(R.upto g (k+n * sz) (aq R.obj id (.tok n g c k))).I b o→R.I b o:=fun b o hb hi=>by
  rcases hi with hi|⟨hi,_⟩
  ·exact hi
  ·exact absurd hi hb
 have live:∀ b,Live (R.upto g (k+n * sz) (aq R.obj id (.tok n g c k))) b→Live R b:=fun b hl=>by
  obtain ⟨i,r,h1,h2⟩:=hl;rcases aB hid h1 with ⟨_,rfl⟩|⟨_,h1⟩
  ·exact ⟨id,_,hid,h2⟩
  ·exact ⟨i,r,h1,h2⟩
 have se:∀ k cs,di s.boxes k=some cs→β k≠g:=fun k cs hk eq=>(h.b.box k cs hk).2.2 (eq ▸ wM)
 refine ⟨e,⟨⟨by simp [St.bG,ai.upto,h.g.len],fun i gg r h1 h2=>?_,fun i j ri rj b h1 h2 b1 b2=>?_,fun b o hi=>?_,fun g cs hg=>(h.g.dV g cs hg).mono e,by first | exact h.g.lo | exact Nat.le_succ_of_le h.g.lo⟩,?_,h.t.mono e,h.n,h.d.mono e⟩,?_⟩
 ·rcases aB hid h2 with ⟨rfl,rfl⟩|⟨cz,h2⟩
  ·simp only [St.bG] at h1;rw [ay hg] at h1;cases h1;refine ⟨rfl,cur2,new,hn,hm,fb,fun o' sb hi=>?_⟩;rcases hi with hi|⟨_,hi⟩
   ·exact lH o' (by have:=Nat.mul_le_mul_right sz (Nat.le_of_lt hf); omega) hi
   ·omega
  ·simp only [St.bG] at h1;rw [a8 (Ne.symm cz)] at h1;have R7:∀ b,r.has b→b≠g:=fun b hb eq=>cz (h.g.inj i id _ _ b h2 hid hb (by rw [eq]; rfl))
   exact (h.g.obj i gg r h1 h2).mono e (fun b hb=>old b (R7 b hb)) (fun b o hb=>hI b o (R7 b hb))
 ·rcases aB hid h1 with ⟨g3,e1⟩|⟨g3,g1⟩
  ·rcases aB hid h2 with ⟨g4,e2⟩|⟨g4,g2⟩
   ·omega
   ·rw [e1] at b1;exact g3.trans (h.g.inj id j _ _ b hid g2 b1 b2)
  ·rcases aB hid h2 with ⟨g4,e2⟩|⟨g4,g2⟩
   ·rw [e2] at b2;exact (h.g.inj i id _ _ b g1 hid b1 b2).trans g4.symm
   ·exact h.g.inj i j ri rj b g1 g2 b1 b2
 ·rcases hi with hi|⟨rfl,_⟩
  ·have:=h.g.wf b o hi;simpa using this
  ·have:=bt jG;simpa using this
 ·exact h.b.aZ e (fun q cs hk=>old _ (se q cs hk)) (fun q cs o hk=>hI _ o (se q cs hk)) (fun q cs hk hl=>live _ hl)
 ·refine ⟨e,rfl,rfl,rfl,by simp,fun b hb sf=>old b (fun eq=>sf (.inl (eq ▸ wM))),fun b hb ho=>?_,fun b o hi hb sf=>hI b o (fun eq=>sf (.inl (eq ▸ wM))) hi⟩;rcases ho with ho|ho
  ·exact .inl (live b ho)
  ·exact .inr ho
structure One (w w':World) (x:Obj):Prop where
 old:∀ b,b < w.heap.size→w'.heap[b]?=w.heap[b]?
 new:w'.heap[w.heap.size]?=some x
 size:w'.heap.size=w.heap.size+1
 os:w'.os=w.os
 tape:w'.tape=w.tape
 output:w'.output=w.output
 drawn:w.drawn≤w'.drawn
theorem One.alloc (w:World) (x:Obj):One w (w.alloc x) x:=⟨fun b hb=>heap_alloc_old w x b hb,heap_alloc_new w x,by simp,rfl,rfl,rfl,Nat.le_refl _⟩
theorem One.drew (w:World) (x:Obj):One w (w.drew.alloc x) x:=⟨fun b hb=>heap_alloc_old w.drew x b hb,heap_alloc_new w.drew x,by simp,rfl,rfl,rfl,Nat.le_succ _⟩
theorem Ob {w':World} {x:Obj} (o1:One w w' x) (wf:∀ b o,R.I b o→b < w.heap.size) {n id:Nat} {r0 r1:RO} (hid:nth R.obj id=some r0) (hle:cp r0 r1):Ext R w (R.upto w.heap.size n (aq R.obj id r1)) w':=
 ⟨fun _ _ h=>.inl h,fun b o h=>bP (o1.old b (wf b o h)) o,fun i r h=>by
  by_cases e:id=i
  ·subst e;rw [hid] at h;cases h;exact ⟨_,ay hid,hle⟩
  ·exact ⟨r,by rw [ai.upto,a8 e]; exact h,cp.refl r⟩,.old fun b hb=>o1.old b hb⟩
theorem aX.R8 (h:aX E R w β s a) {w':World} {x:Obj} (o1:One w w' x) {n id:Nat} {r0 r1:RO} {Kv go:GO} (hg:nth s.G id=some Kv) (hid:nth R.obj id=some r0) (hle:cp r0 r1) (yd:∀ b,r1.has b→b=w.heap.size∨r0.has b)
  (iB:gX (R.upto w.heap.size n (aq R.obj id r1)) w' go r1) :
  aX E (R.upto w.heap.size n (aq R.obj id r1)) w' β (s.bG (aq s.G id go)) a∧Step R w β s.boxes (R.upto w.heap.size n (aq R.obj id r1)) w' β s.boxes:=by
 have e:=Ob (R:=R) (n:=n) o1 h.g.wf hid hle;have hI:∀ b o,b < w.heap.size→(R.upto w.heap.size n (aq R.obj id r1)).I b o→R.I b o:=fun b o hb hi=>by
  rcases hi with hi|⟨hi,_⟩
  ·exact hi
  ·omega
 have live:∀ b,b < w.heap.size→Live (R.upto w.heap.size n (aq R.obj id r1)) b→Live R b:=fun b hb hl=>by
  obtain ⟨i,r,h1,h2⟩:=hl;rcases aB hid h1 with ⟨_,rfl⟩|⟨_,h1⟩
  ·rcases yd b h2 with h3|h3
   ·omega
   ·exact ⟨id,r0,hid,h3⟩
  ·exact ⟨i,r,h1,h2⟩
 refine ⟨⟨⟨by simp [St.bG,ai.upto,h.g.len],fun i gg r h1 h2=>?_,fun i j ri rj b h1 h2 b1 b2=>?_,fun b o hi=>?_,fun g cs hg=>(h.g.dV g cs hg).mono e,Nat.le_trans h.g.lo o1.drawn⟩,?_,h.t.mono e,h.n,h.d.mono e⟩,?_⟩
 ·rcases aB hid h2 with ⟨rfl,rfl⟩|⟨cz,h2⟩
  ·simp only [St.bG] at h1;rw [ay hg] at h1;cases h1;exact iB
  ·simp only [St.bG] at h1;rw [a8 (Ne.symm cz)] at h1;exact (h.g.obj i gg r h1 h2).mono e (fun b hb=>o1.old b (h.g.bS ⟨i,r,h2,hb⟩)) (fun b o hb=>hI b o (h.g.bS ⟨i,r,h2,hb⟩))
 ·rcases aB hid h1 with ⟨g3,e1⟩|⟨g3,g1⟩
  ·rcases aB hid h2 with ⟨g4,e2⟩|⟨g4,g2⟩
   ·omega
   ·rw [e1] at b1;rcases yd b b1 with b3|b3
    ·have:=h.g.bS ⟨j,rj,g2,b2⟩;omega
    ·exact g3.trans (h.g.inj id j _ _ b hid g2 b3 b2)
  ·rcases aB hid h2 with ⟨g4,e2⟩|⟨g4,g2⟩
   ·rw [e2] at b2;rcases yd b b2 with b3|b3
    ·have:=h.g.bS ⟨i,ri,g1,b1⟩;omega
    ·exact (h.g.inj i id _ _ b g1 hid b1 b3).trans g4.symm
   ·exact h.g.inj i j ri rj b g1 g2 b1 b2
 ·rcases hi with hi|⟨rfl,_⟩
  ·have:=h.g.wf b o hi;rw [o1.size];omega
  ·rw [o1.size]; omega
 ·exact h.b.aZ e (fun q cs hk=>o1.old _ (h.eg (.inr ⟨q,cs,hk,rfl⟩))) (fun q cs o hk=>hI _ o (h.eg (.inr ⟨q,cs,hk,rfl⟩))) (fun q cs hk hl=>live _ (h.eg (.inr ⟨q,cs,hk,rfl⟩)) hl)
 ·refine ⟨e,o1.os,o1.tape,o1.output,by rw [o1.size]; omega,fun b hb _=>o1.old b hb,fun b hb ho=>?_,fun b o hi hb _=>hI b o hb hi⟩;rcases ho with ho|ho
  ·exact .inl (live b hb ho)
  ·exact .inr ho
theorem aX.Oc (h:aX E R w β s a) {cur cur2:Array Value} {elem:TypeId} {n id g:Nat} {r0 r1:RO} {Kv go:GO} (hg:nth s.G id=some Kv) (hid:nth R.obj id=some r0) (V4:r0.has g) (hle:cp r0 r1) (yd:∀ b,r1.has b→r0.has b)
  (jG:w.heap[g]?=some (.cells cur elem (0,0))) (ye:∀ o,R.I g o→cur2[o]?=cur[o]?)
  (iB:Ext R w (R.upto g n (aq R.obj id r1)) (w.setRow g cur2)→gX (R.upto g n (aq R.obj id r1)) (w.setRow g cur2) go r1) :
  Ext R w (R.upto g n (aq R.obj id r1)) (w.setRow g cur2)∧aX E (R.upto g n (aq R.obj id r1)) (w.setRow g cur2) β (s.bG (aq s.G id go)) a∧Step R w β s.boxes (R.upto g n (aq R.obj id r1)) (w.setRow g cur2) β s.boxes:=by
 have old:∀ b,b≠g→(w.setRow g cur2).heap[b]?=w.heap[b]?:=fun b hb=>setRow_other w g b cur2 hb
 have new:(w.setRow g cur2).heap[g]?=some (.cells cur2 elem (0,0)):=setRow_heap w g cur cur2 elem (0,0) jG;have wM:Live R g:=⟨id,_,hid,V4⟩;have e:Ext R w (R.upto g n (aq R.obj id r1)) (w.setRow g cur2):=by
  refine ⟨fun _ _ hi=>.inl hi,fun b o hi=>?_,fun i r hr=>?_,fun b r hb=>⟨r,(old b fun e=>by subst e; rw [jG] at hb; cases hb).trans hb,rfl,rfl,rfl,rfl,rfl⟩⟩
  ·by_cases hb:b=g
   ·subst hb;simp only [World.cell?,new,jG,ye o hi]
   ·exact bP (old b hb) o
  ·by_cases ei:id=i
   ·subst ei;rw [hid] at hr;cases hr;exact ⟨_,ay hid,hle⟩
   ·exact ⟨r,by rw [ai.upto,a8 ei]; exact hr,cp.refl r⟩
 have hI:∀ b o,b≠g→(R.upto g n (aq R.obj id r1)).I b o→R.I b o:=fun b o hb hi=>by
  rcases hi with hi|⟨hi,_⟩
  ·exact hi
  ·exact absurd hi hb
 have live:∀ b,Live (R.upto g n (aq R.obj id r1)) b→Live R b:=fun b hl=>by
  obtain ⟨i,r,h1,h2⟩:=hl;rcases aB hid h1 with ⟨_,rfl⟩|⟨_,h1⟩
  ·exact ⟨id,_,hid,yd b h2⟩
  ·exact ⟨i,r,h1,h2⟩
 have se:∀ k cs,di s.boxes k=some cs→β k≠g:=fun k cs hk eq=>(h.b.box k cs hk).2.2 (eq ▸ wM)
 refine ⟨e,⟨⟨by simp [St.bG,ai.upto,h.g.len],fun i gg r h1 h2=>?_,fun i j ri rj b h1 h2 b1 b2=>?_,fun b o hi=>?_,fun g cs hg=>(h.g.dV g cs hg).mono e,h.g.lo⟩,?_,h.t.mono e,h.n,h.d.mono e⟩,?_⟩
 ·rcases aB hid h2 with ⟨rfl,rfl⟩|⟨cz,h2⟩
  ·simp only [St.bG] at h1;rw [ay hg] at h1;cases h1;exact iB e
  ·simp only [St.bG] at h1;rw [a8 (Ne.symm cz)] at h1;have R7:∀ b,r.has b→b≠g:=fun b hb eq=>cz (h.g.inj i id _ _ b h2 hid hb (by rw [eq]; exact V4))
   exact (h.g.obj i gg r h1 h2).mono e (fun b hb=>old b (R7 b hb)) (fun b o hb=>hI b o (R7 b hb))
 ·rcases aB hid h1 with ⟨g3,e1⟩|⟨g3,g1⟩
  ·rcases aB hid h2 with ⟨g4,e2⟩|⟨g4,g2⟩
   ·omega
   ·rw [e1] at b1;exact g3.trans (h.g.inj id j _ _ b hid g2 (yd b b1) b2)
  ·rcases aB hid h2 with ⟨g4,e2⟩|⟨g4,g2⟩
   ·rw [e2] at b2;exact (h.g.inj i id _ _ b g1 hid b1 (yd b b2)).trans g4.symm
   ·exact h.g.inj i j ri rj b g1 g2 b1 b2
 ·rcases hi with hi|⟨rfl,_⟩
  ·have:=h.g.wf b o hi;simpa using this
  ·have:=bt jG;simpa using this
 ·exact h.b.aZ e (fun q cs hk=>old _ (se q cs hk)) (fun q cs o hk=>hI _ o (se q cs hk)) (fun q cs hk hl=>live _ hl)
 ·refine ⟨e,rfl,rfl,rfl,by simp,fun b hb sf=>old b (fun eq=>sf (.inl (eq ▸ wM))),fun b hb ho=>?_,fun b o hi hb sf=>hI b o (fun eq=>sf (.inl (eq ▸ wM))) hi⟩;rcases ho with ho|ho
  ·exact .inl (live b ho)
  ·exact .inr ho
theorem uS.set {ts:List TR} {j:Nat} {t t':TR} (ht:nth ts j=some t) (hle:np t t'):uS ts (aq ts j t'):=fun i u hu=>by
 by_cases e:j=i
 ·subst e;rw [ht] at hu;cases hu;exact ⟨t',ay ht,hle⟩
 ·exact ⟨u,by rw [a8 e]; exact hu,np.refl u⟩
theorem HB {ts:List TR} {j n g c b:Nat} (h:RO.has (.bc (aq ts j (.tok n g c))) b):b=g∨RO.has (.bc ts) b:=by
 obtain ⟨i,f,c',hi⟩:=h;rcases dZ hi with ⟨_,e,_⟩|⟨_,hi⟩
 ·cases e; exact .inl rfl
 ·exact .inr ⟨i,f,c',hi⟩
theorem Ba.of {R':ai} {w':World} {sz f:Nat} {e:TypeId} {t:TR} (h:Ba R w sz e f t) (hold:∀ f b c,t=.tok f b c→w'.heap[b]?=w.heap[b]?∧∀ o,R'.I b o→R.I b o):Ba R' w' sz e f t:=by
 cases t with
 |bz=>exact h
 |full f'=>exact h
 |tok f' b c=>
  obtain ⟨h0,cur,h1,h2,h3,h4,h5⟩:=h;obtain ⟨k1,k2⟩:=hold f' b c rfl;exact ⟨h0,cur,k1.trans h1,h2,h3,h4,fun o ho hi=>h5 o ho (k2 o hi)⟩
theorem xN.set {R':ai} {w':World} {sz:Nat} {e:TypeId} {fs:List Nat} {ts:List TR} (h:xN R w sz e fs ts) {j n g c:Nat} (oJ:Ba R' w' sz e n (.tok n g c)) (K5:∀ i f c,nth ts i=some (.tok f g c)→i=j)
  (hold:∀ i f b c,i≠j→nth ts i=some (.tok f b c)→w'.heap[b]?=w.heap[b]?∧∀ o,R'.I b o→R.I b o):xN R' w' sz e (aq fs j n) (aq ts j (.tok n g c)):=by
 obtain ⟨h1,h2,h3⟩:=h;refine ⟨by simp [h1],fun i i' f1 b c1 f2 c2 q1 q2=>?_,fun i f1 t1 q1 q2=>?_⟩
 ·rcases dZ q1 with ⟨n1,e1,_⟩|⟨n1,q1⟩
  ·cases e1;rcases dZ q2 with ⟨n2,_,_⟩|⟨n2,q2⟩
   ·exact n1.symm.trans n2
   ·exact absurd (K5 _ _ _ q2).symm n2
  ·rcases dZ q2 with ⟨n2,e2,_⟩|⟨n2,q2⟩
   ·cases e2;exact (K5 _ _ _ q1).trans n2
   ·exact h2 i i' _ _ _ _ _ q1 q2
 ·rcases dZ q1 with ⟨n1,e1,_⟩|⟨n1,q1⟩
  ·rcases dZ q2 with ⟨_,e2,_⟩|⟨n2,_⟩
   ·subst e1 e2;exact oJ
   ·exact absurd n1 n2
  ·rcases dZ q2 with ⟨n2,_,_⟩|⟨n2,q2⟩
   ·exact absurd n2 n1
   ·exact (h3 i f1 t1 q1 q2).of fun f b c ht=>by subst ht; exact hold i f b c (Ne.symm n2) q2
end ops
end Go.Am
