/- The abstract machine: what it does is what the model does: slices that are built and cut. -/
import Derived.Test.YtldcljfjjoidhaaGreatDoorAmKB
import Derived.IntWalk
set_option linter.all false
namespace Go.Am
open Go
theorem bP (l r:List AV):an (l++r)=an l++an r:=by
 induction l with
 | nil=>rfl
 | cons e l ih=>simp [an,ih]
theorem cE {sz:Nat} {es:List AV} (h:fK sz es):(an es).length=es.length * sz:=by
 induction es with
 | nil=>simp [an]
 | cons e es ih=>
  have h1:=(h e (by simp)).1
  have:=ih (fun x hx=>h x (by simp [hx]))
  simp only [an,List.length_append,this,h1,List.length_cons,Nat.add_mul]
  omega
section rel
variable {R:ah} {w:World}
theorem jr {b sz:Nat}:∀ {es:List AV} {o:Nat},fK sz es→cG R w b o (an es)→ee R w b o sz es
 | [],_,_,_=>.nil
 | e :: es,o,h,hc=>by
  obtain ⟨h1,h2,h3⟩:=h e (by simp)
  obtain ⟨vs,k1,k2,k3,k4⟩:=hc.get
  have hd:=hc.drop sz
  have Mp:(an (e :: es)).drop sz=an es:=by simp only [an]; rw [← h1,List.drop_left]
  have Cl:(an (e :: es)).take sz=e.cells:=by simp only [an]; rw [← h1,List.take_left]
  rw [Mp] at hd
  refine .cons h1 h2 h3 ?_ (jr (fun x hx=>h x (by simp [hx])) hd)
  have kt:=k1.take sz
  rw [Cl] at kt
  refine .make kt (fun v hv=>k2 v (List.mem_of_mem_take hv)) (fun j v hv=>k3 j v ?_) (fun j hj=>k4 j ?_)
  ·rw [List.getElem?_take] at hv
   split at hv
   ·exact hv
   ·cases hv
  ·simp only [an,List.length_append]
   omega
theorem qZ {b sz:Nat}:∀ {es:List AV} {o:Nat},ee R w b o sz es→fK sz es∧∃ vs,aA R w (an es) vs∧(∀ v∈vs,v.oneCell'=true)∧(∀ j v,vs[j]?=some v→w.cell? ⟨b,o+j,none⟩=some v)∧∀ j,j < es.length * sz→R.I b (o+j)
 | [],o,_=>⟨fun e he=>by simp at he,[],.nil,by simp,by simp,by simp⟩
 | e :: es,o,h=>by
  cases h with
  | cons hl ht hk hc t=>
   obtain ⟨g0,vs,g1,g2,g3,g4⟩:=qZ t
   obtain ⟨us,f1,f2,f3,f4⟩:=hc.get
   have hlen:us.length=sz:=by rw [← f1.length,hl]
   refine ⟨fun x hx=>?_,us++vs,f1.append g1,fun v hv=>?_,fun j v hv=>?_,fun j hj=>?_⟩
   ·rcases List.mem_cons.1 hx with rfl | hx
    ·exact ⟨hl,ht,hk⟩
    ·exact g0 x hx
   ·rcases List.mem_append.1 hv with hv | hv
    ·exact f2 v hv
    ·exact g2 v hv
   ·by_cases hj:j < sz
    ·rw [List.getElem?_append_left (by omega)] at hv
     exact f3 j v hv
    ·rw [List.getElem?_append_right (by omega),hlen] at hv
     have:=g3 _ v hv
     rwa [show o+sz+(j - sz)=o+j by omega] at this
   ·by_cases EZ:j < sz
    ·exact f4 j (by omega)
    ·have:=g4 (j - sz) (by simp only [List.length_cons,Nat.add_mul] at hj; omega)
     rwa [show o+sz+(j - sz)=o+j by omega] at this
theorem tR {b sz:Nat}:∀ (n:Nat) {es:List AV} {o:Nat},ee R w b o sz es→ee R w b (o+n * sz) sz (es.drop n)
 | 0,es,o,h=>by simpa using h
 | n+1,[],o,h=>by simpa using ee.nil
 | n+1,e :: es,o,h=>by
  cases h with
  | cons hl ht hk hc t=>
   have:=tR n t
   rw [show o+sz+n * sz=o+(n+1) * sz by rw [Nat.add_mul]; omega] at this
   simpa using this
theorem ov {b sz:Nat}:∀ (n:Nat) {es:List AV} {o:Nat},ee R w b o sz es→ee R w b o sz (es.take n)
 | 0,es,o,h=>by simpa using ee.nil
 | n+1,[],o,h=>by simpa using ee.nil
 | n+1,e :: es,o,h=>by
  cases h with
  | cons hl ht hk hc t=>simpa using ee.cons hl ht hk hc (ov n t)
end rel
theorem dP {sz n:Nat} {z:AV} (h1:z.cells.length=sz) (h2:z.aG=true) (h3:z.closed=true):fK sz (List.replicate n z):=fun e he=>by
 rw [List.mem_replicate] at he
 rw [he.2]
 exact ⟨h1,h2,h3⟩
theorem q7 {sz:Nat}:∀ {es:List AV} {i:Nat} {v:AV},fK sz es→i < es.length→v.cells.length=sz→an (aw es i v)=bt (an es) (i * sz) v.cells
 | [],i,v,_,h,_=>by simp at h
 | e :: es,0,v,h,_,hv=>by
  have h1:=(h e (by simp)).1
  simp only [aw,an,Nat.zero_mul]
  rw [cW _ 0 _ (by simp; omega)]
  simp only [List.take_zero,List.nil_append,Nat.zero_add]
  rw [hv,← h1,List.drop_left]
 | e :: es,i+1,v,h,hi,hv=>by
  have h1:=(h e (by simp)).1
  have BY:fK sz es:=fun x hx=>h x (by simp [hx])
  have ih:=q7 (i:=i) (v:=v) BY (by simpa using hi) hv
  have bD:i < es.length:=by simpa using hi
  have hle:i * sz+sz≤es.length * sz:=by rw [← Nat.succ_mul]; exact Nat.mul_le_mul_right _ bD
  have hl:=cE BY
  simp only [aw,an]
  have e1:(i+1) * sz=e.cells.length+i * sz:=by rw [h1,Nat.succ_mul]; omega
  have e2:List.take (e.cells.length+i * sz) e.cells=e.cells:=List.take_of_length_le (by omega)
  rw [ih,cW _ _ _ (by omega),e1,cW _ _ _ (by simp only [List.length_append]; omega)]
  rw [List.take_append,e2,Nat.add_assoc,List.drop_append,List.drop_of_length_le (by omega:e.cells.length≤e.cells.length+(i * sz+v.cells.length))]
  simp [Nat.add_sub_cancel_left]
theorem A6 {sz:Nat} {es:List AV} {i:Nat} {v:AV} (h:fK sz es) (h1:v.cells.length=sz) (h2:v.aG=true) (h3:v.closed=true):fK sz (aw es i v):=fun e he=>by
 rw [eI] at he
 rcases List.mem_or_eq_of_mem_set he with he | rfl
 ·exact h e he
 ·exact ⟨h1,h2,h3⟩
theorem pf {sz:Nat}:∀ {ps:List (Nat × AV)} {es es':List AV},vN sz es ps=some es'→fK sz es →
  oY (fun i=>some (i * sz,sz)) (an es) ps=some (an es')∧fK sz es'∧es'.length=es.length
 | [],es,es',h,hk=>by simp [vN] at h; subst h; exact ⟨rfl,hk,rfl⟩
 | (i,v) :: ps,es,es',h,hk=>by
  unfold vN at h
  split at h
  ·rename_i hc
   simp only [Bool.and_eq_true] at hc
   obtain ⟨⟨⟨hn,hl⟩,hi⟩,Fi⟩:=hc
   have Re:=Nat.eq_of_beq_eq_true hl
   have oq:=Nat.le_of_ble_eq_true hi
   obtain ⟨g1,g2,g3⟩:=pf h (A6 hk Re hn Fi)
   refine ⟨?_,g2,by simpa using g3⟩
   unfold oY
   have hle:Nat.ble (i * sz+sz) (an es).length=true:=by
    apply Nat.ble_eq_true_of_le
    rw [cE hk,← Nat.succ_mul]
    exact Nat.mul_le_mul_right _ oq
   simp only [hn,hl,hle,Bool.and_self,if_true]
   rw [← q7 hk (by omega) Re]
   exact g1
  ·cases h
section ops
variable {E:Env} {R:ah} {w:World} {β:Nat→Nat} {s:St} {a:Act} {o:Oper}
def ah.LH (R:ah) (b:Nat):ah:=⟨fun b' o=>R.I b' o∨b'=b,R.obj⟩
theorem uK (wf:∀ b o,R.I b o→b < w.heap.size) (x:Obj):Ext R w (R.LH w.heap.size) (w.alloc x):=
 ⟨fun _ _ h=>.inl h,fun b o h=>bo (heap_alloc_old w x b (wf b o h)) o,fun _ ro h=>⟨ro,h,bF.refl ro⟩,.old fun b hb=>heap_alloc_old w x b hb⟩
theorem aP.LH (h:aP E R w β s a) (x:Obj):aP E (R.LH w.heap.size) (w.alloc x) β s a:=
 h.bA (uK h.g.wf x) rfl (fun b hb=>heap_alloc_old w x b (h.cN hb)) (fun b o hb hi=>by
  rcases hi with hi | hi
  ·exact hi
  ·have:=h.cN hb
   omega) (fun b o hi=>by
  rcases hi with hi | hi
  ·have:=h.g.wf b o hi
   simp
   omega
  ·simp
   omega)
theorem Cm (h:aP E R w β s a) (x:Obj):Step R w β s.boxes (R.LH w.heap.size) (w.alloc x) β s.boxes:=
 ⟨uK h.g.wf x,rfl,rfl,rfl,by simp,fun b hb _=>heap_alloc_old w x b hb,fun _ _ ho=>ho,fun b o hi hb _=>by
  rcases hi with hi | hi
  ·exact hi
  ·omega⟩
theorem kw (z:Array Value):∀ (n:Nat),(((Array.range (n * z.size)).map fun i=>z[i % z.size]!)).toList=(List.replicate n z.toList).flatten
 | 0=>by simp
 | n+1=>by
  have ih:=kw z n
  simp only [Array.toList_map,Array.toList_range] at ih ⊢
  rw [Nat.add_mul,Nat.one_mul,List.range_add,List.map_append,ih,List.replicate_succ',List.flatten_append]
  congr 1
  simp only [List.map_map,List.flatten_cons,List.flatten_nil,List.append_nil]
  apply List.ext_getElem?
  intro i
  by_cases hi:i < z.size
  ·simp only [List.getElem?_map,List.getElem?_range hi,Option.map_some,Function.comp_apply]
   rw [Nat.mul_comm n,Nat.mul_add_mod,Nat.mod_eq_of_lt hi]
   simp [hi]
  ·rw [List.getElem?_eq_none (by simp; omega),List.getElem?_eq_none (by simp; omega)]
theorem js {z:AV} {c:Value} (hr:Rel R w z c) (hn:z.aG=true):∀ (n:Nat),aA R w (an (List.replicate n z)) (List.replicate n c.cells.toList).flatten∧∀ v∈(List.replicate n c.cells.toList).flatten,v.oneCell'=true
 | 0=>by simp [an]; exact .nil
 | n+1=>by
  obtain ⟨c1,c2⟩:=Rel.cells hr hn
  obtain ⟨h1,h2⟩:=js hr hn n
  refine ⟨?_,fun v hv=>?_⟩
  ·simpa [List.replicate_succ,an] using c1.append h1
  ·simp only [List.replicate_succ,List.flatten_cons,List.mem_append] at hv
   rcases hv with hv | hv
   ·exact c2 v hv
   ·exact h2 v hv
theorem ow:∀ {ps:List (Nat × AV)} {us:List Value},aA R w (ps.map (·.2)) us→aA R w ((tG ps).map (·.2)) us
 | [],_,h=>h
 | (_,_) :: _,_,.cons h t=>.cons h.eu (ow t)
theorem ox:∀ (ps:List (Nat × AV)),(tG ps).map (·.1)=ps.map (·.1)
 | []=>rfl
 | (i,v) :: l=>by simp [tG,ox l]
theorem fh (h:aP E R w β s a) (t:TypeId) (len:Nat) (parts:Array (Nat × Operand)) (ho:o.op=.buildSlice t len parts) {v:AV} (hv:bq E s t len parts.toList=some v) :
  ∃ es esz us elem,v=.list .full esz es∧(execOp a.eval o).run E.P w=.ok (.value (.slice (some ⟨w.heap.size,0,none⟩) len len)) (w.alloc (.cells ⟨us⟩ elem))∧fK esz es∧es.length=len∧aA R w (an es) us∧(∀ x∈us,x.oneCell'=true)∧∃ i ag lG z,E.ti t=some i∧i.k=.sl elem esz ag lG z:=by
 unfold bq at hv
 split at hv
 ·rename_i i ps hi BX
  split at hv
  ·rename_i elem esz ag lG z hk
   split at hv
   ·rename_i hc
    simp only [Bool.and_eq_true] at hc
    obtain ⟨⟨⟨⟨A7,Mq⟩,Mr⟩,hz4⟩,hz5⟩:=hc
    have A7:=Nat.eq_of_beq_eq_true A7
    have Mq:=Nat.le_of_ble_eq_true Mq
    have Mr:=Nat.le_of_ble_eq_true Mr
    split at hv
    ·rename_i es BY
     cases hv
     obtain ⟨eC,u,e1,e2,e3,e4,e5,e6⟩:=bu E hi
     rw [hk] at e5
     obtain ⟨ie,ue,rfl,f1,f2,f3,f4,f5,f6⟩:=cA e5
     obtain ⟨zc,mj,xT⟩:=b8 f6
     have Iy:=xT R w
     obtain ⟨c1,c2⟩:=Rel.cells Iy hz4
     have mP:zc.cells.size=esz:=by rw [← A7,c1.length]; simp
     obtain ⟨p1,p2⟩:=qt h BX
     obtain ⟨z1,z2⟩:=js Iy hz4 len
     obtain ⟨g1,g2,g3⟩:=pf BY (dP A7 hz4 hz5)
     obtain ⟨us,u1,u2,u3⟩:=kv (R:=R) (w:=w) _ (ow p1) ((ox ps).trans p2) z1 z2 g1
     have Jv:(parts.map fun (x:Nat × Operand)=>(x.1,a.eval x.2)).toList=parts.toList.map fun x=>(x.1,a.eval x.2):=by simp
     have q8:((Array.range (len * esz)).map fun i=>zc.cells[i % zc.cells.size]!)=⟨(List.replicate len zc.cells.toList).flatten⟩:=by
      apply Array.ext'
      rw [← mP]
      exact kw zc.cells len
     have hlen:es.length=len:=by simpa using g3
     have aU:(Instr.buildSlice t len (parts.map fun (x:Nat × Operand)=>(x.1,a.eval x.2))).run E.P w=.ok (.slice (some ⟨w.heap.size,0,none⟩) len len) (w.alloc (.cells ⟨us⟩ elem)):=by
      have EY:¬ len * esz > 2 ^ 24:=by omega
      by_cases h0:len * esz=0
      ·have q9:len=0:=by
        rcases Nat.mul_eq_zero.1 h0 with h0 | h0 <;> omega
       subst q9
       have Pd:Instr.fill (fun i=>some (i * esz,esz)) #[] (parts.toList.map fun x=>(x.1,a.eval x.2))=some ⟨us⟩:=by simpa using u1
       simp only [Instr.buildSlice,Sem.run_bind,run_underlying e2,Result.andThen_ok,run_sizeOf w f1,f2]
       simp only [Nat.zero_mul,gt_iff_lt,Nat.not_lt_zero,if_false,if_true,Sem.run_bind,Sem.run_pure,Result.andThen_ok,Jv]
       have vS:∀ f:Nat→Value,Array.map f (Array.range 0)=#[]:=fun f=>by simp
       simp only [vS,Pd,newRow,Sem.run_bind,run_newObj,Result.andThen_ok,Sem.run_pure]
       rfl
      ·simp only [Instr.buildSlice,Sem.run_bind,run_underlying e2,Result.andThen_ok,run_sizeOf w f1,f2]
       rw [if_neg EY,if_neg h0]
       simp only [Sem.run_bind,Sem.run_pure,Result.andThen_ok,eD w f1 mj,Jv,q8,u1,newRow,run_newObj]
       rfl
     exact ⟨es,esz,us,elem,rfl,by simp only [execOp,ho,Sem.run_bind,aU,Result.andThen_ok,Sem.run_pure],g2,hlen,u2,u3,i,ag,lG,_,hi,hk⟩
    ·cases hv
   ·cases hv
  ·cases hv
 ·cases hv
theorem pX (h:aP E R w β s a) (t:TypeId) (len:Nat) (parts:Array (Nat × Operand)) (ho:o.op=.buildSlice t len parts) {cs:List AV} (hv:gq E s t len parts.toList=some cs) :
  ∃ esz us elem,(execOp a.eval o).run E.P w=.ok (.value (.slice (some ⟨w.heap.size,0,none⟩) len len)) (w.alloc (.cells ⟨us⟩ elem))∧aA R w cs us∧(∀ x∈us,x.oneCell'=true)∧∃ i ag lG z,E.ti t=some i∧i.k=.sl elem esz ag lG z:=by
 unfold gq at hv
 split at hv
 ·rename_i i ps hi BX
  split at hv
  ·rename_i elem esz ag lG z hk
   split at hv
   ·rename_i hc
    simp only [Bool.and_eq_true] at hc
    obtain ⟨⟨⟨A7,Mq⟩,Mr⟩,hz4⟩:=hc
    have A7:=Nat.eq_of_beq_eq_true A7
    have Mq:=Nat.le_of_ble_eq_true Mq
    have Mr:=Nat.le_of_ble_eq_true Mr
    ·have g1:=hv
     obtain ⟨eC,u,e1,e2,e3,e4,e5,e6⟩:=bu E hi
     rw [hk] at e5
     obtain ⟨ie,ue,rfl,f1,f2,f3,f4,f5,f6⟩:=cA e5
     obtain ⟨zc,mj,xT⟩:=b8 f6
     have Iy:=xT R w
     obtain ⟨c1,c2⟩:=Rel.cells Iy hz4
     have mP:zc.cells.size=esz:=by rw [← A7,c1.length]; simp
     obtain ⟨p1,p2⟩:=qt h BX
     obtain ⟨z1,z2⟩:=js Iy hz4 len
     obtain ⟨us,u1,u2,u3⟩:=kv (R:=R) (w:=w) _ (ow p1) ((ox ps).trans p2) z1 z2 g1
     have Jv:(parts.map fun (x:Nat × Operand)=>(x.1,a.eval x.2)).toList=parts.toList.map fun x=>(x.1,a.eval x.2):=by simp
     have q8:((Array.range (len * esz)).map fun i=>zc.cells[i % zc.cells.size]!)=⟨(List.replicate len zc.cells.toList).flatten⟩:=by
      apply Array.ext'
      rw [← mP]
      exact kw zc.cells len
     have aU:(Instr.buildSlice t len (parts.map fun (x:Nat × Operand)=>(x.1,a.eval x.2))).run E.P w=.ok (.slice (some ⟨w.heap.size,0,none⟩) len len) (w.alloc (.cells ⟨us⟩ elem)):=by
      have EY:¬ len * esz > 2 ^ 24:=by omega
      by_cases h0:len * esz=0
      ·have q9:len=0:=by
        rcases Nat.mul_eq_zero.1 h0 with h0 | h0 <;> omega
       subst q9
       have Pd:Instr.fill (fun i=>some (i * esz,esz)) #[] (parts.toList.map fun x=>(x.1,a.eval x.2))=some ⟨us⟩:=by simpa using u1
       simp only [Instr.buildSlice,Sem.run_bind,run_underlying e2,Result.andThen_ok,run_sizeOf w f1,f2]
       simp only [Nat.zero_mul,gt_iff_lt,Nat.not_lt_zero,if_false,if_true,Sem.run_bind,Sem.run_pure,Result.andThen_ok,Jv]
       have vS:∀ f:Nat→Value,Array.map f (Array.range 0)=#[]:=fun f=>by simp
       simp only [vS,Pd,newRow,Sem.run_bind,run_newObj,Result.andThen_ok,Sem.run_pure]
       rfl
      ·simp only [Instr.buildSlice,Sem.run_bind,run_underlying e2,Result.andThen_ok,run_sizeOf w f1,f2]
       rw [if_neg EY,if_neg h0]
       simp only [Sem.run_bind,Sem.run_pure,Result.andThen_ok,eD w f1 mj,Jv,q8,u1,newRow,run_newObj]
       rfl
     exact ⟨esz,us,elem,by simp only [execOp,ho,Sem.run_bind,aU,Result.andThen_ok,Sem.run_pure],u2,u3,i,ag,lG,_,hi,hk⟩
   ·cases hv
  ·cases hv
 ·cases hv
theorem pY (h:aP E R w β s a) (t:TypeId) (len:Nat) (parts:Array (Nat × Operand)) (ho:o.op=.buildSlice t len parts) {v:AV} (hv:bq E s t len parts.toList=some v) :
  bk E R w β s a o (s.put o.dst (.v v)):=by
 obtain ⟨es,esz,us,elem,rfl,aU,g2,hlen,u2,u3,_⟩:=fh h t len parts ho hv
 have e:=uK (R:=R) (w:=w) h.g.wf (.cells ⟨us⟩ elem)
 refine ⟨_,.slice (some ⟨w.heap.size,0,none⟩) len len,_,R.LH w.heap.size,β,aU,.inl rfl,(h.LH (.cells ⟨us⟩ elem)).put o.dst ?_,by rw [aI]; exact Cm h _⟩
 refine Rel.list (jr g2 (cG.make (u2.mono e) u3 (fun j x hx=>?_) (fun j _=>.inr rfl))) hlen.symm (Nat.le_refl _) rfl
 rw [fM (heap_alloc_new w _)]
 simpa using hx
theorem oz (h:aP E R w β s a) (t:TypeId) (len:Nat) (parts:Array (Nat × Operand)) (ho:o.op=.buildSlice t len parts) {cs:List AV} (hv:gq E s t len parts.toList=some cs) {i:TI} (hi:E.ti t=some i) {el:TypeId} {esz eb:Nat} {ag:Bool} {z:Option AV} (hk:i.k=.sl el esz ag eb z) :
  bk E R w β s a o ((s.cJ (.row cs el)).put o.dst (.v (.gn s.G.length 0 esz len len))):=by
 obtain ⟨Jw,us,elem,aU,u2,u3,i',Pe,Ms,z',oq,ga⟩:=pX h t len parts ho hv
 rw [hi] at oq
 cases oq
 rw [hk] at ga
 cases ga
 have e:=eJ (R:=R) (w:=w) h.g.wf (.cells ⟨us⟩ el) (.bn w.heap.size)
 have e9:eB (R.add (.bn w.heap.size)) (w.alloc (.cells ⟨us⟩ el)) (.row cs el) (.bn w.heap.size):=
  ⟨_,heap_alloc_new w _,u2.mono e,u3,fun o' hi=>by have:=h.g.wf _ _ hi; omega⟩
 exact ⟨_,_,_,R.add (.bn w.heap.size),β,aU,.inl rfl,(h.iV _ _ _ (by exact fun _ h=>h) e9).put o.dst (x:=.v (.gn s.G.length 0 esz len len)) (Rel.gn (eK h _) (Nat.le_refl _)),by rw [aI]; exact cg h _ _ (by exact fun _ h=>h)⟩
theorem oA (h:aP E R w β s a) (t:TypeId) (len:Nat) (parts:Array (Nat × Operand)) (ho:o.op=.buildSlice t len parts) {k:LK} {esz:Nat} {es:List AV} (hv:bq E s t len parts.toList=some (.list k esz es)) {i:TI} (hi:E.ti t=some i) {el:TypeId} {a8 eb:Nat} {ag:Bool} {z:Option AV} (hk:i.k=.sl el a8 ag eb z) :
  bk E R w β s a o ((s.cJ (.row (an es) el)).put o.dst (.v (.gn s.G.length 0 esz len len))):=by
 obtain ⟨es',Jw,us,elem,Mt,aU,g2,hlen,u2,u3,i',Pe,Ms,z',oq,ga⟩:=fh h t len parts ho hv
 cases Mt
 rw [hi] at oq
 cases oq
 rw [hk] at ga
 cases ga
 have e:=eJ (R:=R) (w:=w) h.g.wf (.cells ⟨us⟩ el) (.bn w.heap.size)
 have e9:eB (R.add (.bn w.heap.size)) (w.alloc (.cells ⟨us⟩ el)) (.row (an es) el) (.bn w.heap.size):=
  ⟨_,heap_alloc_new w _,u2.mono e,u3,fun o' hi=>by have:=h.g.wf _ _ hi; omega⟩
 exact ⟨_,_,_,R.add (.bn w.heap.size),β,aU,.inl rfl,(h.iV _ _ _ (by exact fun _ h=>h) e9).put o.dst (x:=.v (.gn s.G.length 0 esz len len)) (Rel.gn (eK h _) (Nat.le_refl _)),by rw [aI]; exact cg h _ _ (by exact fun _ h=>h)⟩
end ops
end Go.Am
namespace Go.Am
open Go
section ops
variable {E:Env} {R:ah} {w:World} {β:Nat→Nat} {s:St} {a:Act} {o:Oper}
def Jx (R:ah) (w:World) (β:Nat→Nat):Option SV→Option Value→Prop
 | none,none=>True
 | some x,some c=>lE R w β x c
 | _,_=>False
theorem tS {y y' n:Nat} {x:SV} {c:Value} (hx:lE R w β x c) (hb:uA y x=some (true,n)) (hy:y≤y') (code:BoundsCode) :
  (Instr.sliceBound c y' code).run E.P w=.ok n w∧n≤y:=by
 unfold uA at hb
 split at hb
 ·rename_i k m
  injection hb with hb
  injection hb with h1 h2
  subst h2
  obtain ⟨h0,h3⟩:=of_decide_eq_true h1
  have ou:Rel R w (.int k m) c:=hx
  cases ou
  exact ⟨run_sliceBound (P:=E.P) w k m y' code h0 (by omega),by omega⟩
 ·cases hb
theorem cL (Rf:Bool) {len cap l h:Nat} (zY:len≤cap) {lo hi:Option SV} {lv hv:Option Value} (hl:Jx R w β lo lv) (hh:Jx R w β hi hv) (hb:xZ len lo hi=some (true,l,h)) :
  (Instr.sliceBounds Rf len cap lv hv none).run E.P w=.ok (l,h,cap) w∧l≤h∧h≤len:=by
 unfold xZ at hb
 split at hb
 ·cases hb
 ·rename_i c1 h' gJ
  split at hb
  ·cases hb
  ·rename_i c2 l' Jy
   injection hb with hb
   injection hb with hc hb
   injection hb with e1 e2
   subst e1; subst e2
   simp only [Bool.and_eq_true] at hc
   obtain ⟨rfl,rfl⟩:=hc
   have H:∃ _:True,(match hv with | some v=>Instr.sliceBound v cap (if Rf=true then .sliceAcap else .sliceAlen) | none=>pure len).run E.P w=.ok h' w∧h'≤len:=by
    refine ⟨trivial,?_⟩
    cases hi with
    | none=>cases hv with
     | none=>simp at gJ; subst gJ; exact ⟨rfl,Nat.le_refl _⟩
     | some v=>exact hh.elim
    | some x=>cases hv with
     | none=>exact hh.elim
     | some v=>exact tS (E:=E) hh gJ zY _
   have L:∃ _:True,(match lv with | some v=>Instr.sliceBound v h' .sliceB | none=>pure 0).run E.P w=.ok l' w∧l'≤h':=by
    refine ⟨trivial,?_⟩
    cases lo with
    | none=>cases lv with
     | none=>simp at Jy; subst Jy; exact ⟨rfl,Nat.zero_le _⟩
     | some v=>exact hl.elim
    | some x=>cases lv with
     | none=>exact hl.elim
     | some v=>exact tS (E:=E) hl Jy (Nat.le_refl _) _
   obtain ⟨_,H1,H2⟩:=H
   obtain ⟨_,L1,L2⟩:=L
   refine ⟨?_,L2,H2⟩
   cases hv <;> cases lv <;> simp_all [Instr.sliceBounds]
theorem vT (h:aP E R w β s a) {x:Option Operand} {y:Option SV} (hx:jH E s.ae x=some y):Jx R w β y (x.map a.eval):=by
 cases x with
 | none=>simp [jH] at hx; subst hx; trivial
 | some x=>simp [jH] at hx; subst hx; exact aE h x
theorem ky {α:Type} {l:List α} {lo hi:Nat} (h:hi≤l.length):(mg lo hi l).length=hi - lo:=by
 simp [mg]
 omega
theorem tf (l:List UInt8) (lo hi:Nat):(⟨⟨l⟩⟩:ByteArray).extract lo hi=⟨⟨mg lo hi l⟩⟩:=by
 apply ByteArray.ext
 rw [ByteArray.data_extract]
 apply Array.ext'
 simp [List.extract_eq_take_drop,mg,List.drop_take]
theorem zZ {ag:Bool} {b sz:Nat} (cZ:(ag || Nat.beq sz 1)=true):∀ (n:Nat) {cs:List AV} {o:Nat},cG R w b o cs→n * sz≤cs.length→allFit (x5 ag) (eP ag sz n cs)=true→ee R w b o sz (eP ag sz n cs)
 | 0,_,_,_,_,_=>.nil
 | n+1,cs,o,hc,hl,hf=>by
  simp only [eP,allFit,Bool.and_eq_true] at hf
  obtain ⟨ra,Oz⟩:=hf
  unfold x5 at ra
  simp only [Bool.and_eq_true] at ra
  obtain ⟨⟨h1,h2⟩,h3⟩:=ra
  have hle:sz≤cs.length:=by rw [Nat.succ_mul] at hl; omega
  have iX:(Md ag (cs.take sz)).cells=cs.take sz:=by
   cases ag with
   | true=>rfl
   | false=>
    have Iw:sz=1:=by simpa using cZ
    subst Iw
    match cs,hle with
    | a :: cs,_=>
     show AV.cells a=[a]
     have ho:a.one=true:=by simpa [Md,cP] using h2
     cases a <;> first | rfl | simp [AV.one] at ho
  obtain ⟨vs,k1,k2,k3,k4⟩:=hc.get
  have hA:cG R w b o (cs.take sz):=cG.make (k1.take sz) (fun v hv=>k2 v (List.mem_of_mem_take hv)) (fun j v hv=>k3 j v (by
   rw [List.getElem?_take] at hv
   split at hv
   ·exact hv
   ·cases hv)) (fun j hj=>k4 j (by rw [List.length_take] at hj; omega))
  exact .cons (by rw [iX,List.length_take,Nat.min_eq_left hle]) h1 h3 (by rw [iX]; exact hA) (zZ cZ n (hc.drop sz) (by rw [List.length_drop]; rw [Nat.succ_mul] at hl; omega) Oz)
theorem lM (ag:Bool) (sz:Nat):∀ (n:Nat) (cs:List AV),(eP ag sz n cs).length=n
 | 0,_=>rfl
 | n+1,cs=>by simp [eP,lM ag sz n]
theorem ym (h:aP E R w β s a) (t:TypeId) (x:Operand) (lo hi:Option Operand) (ho:o.op=.slice t x lo hi none) {l h':Option SV} (hl:jH E s.ae lo=some l) (hh:jH E s.ae hi=some h') {v:AV} (hv:uB E t (aY E s.ae x) l h' none=some (true,v)) :
  bk E R w β s a o (s.put o.dst (.v v)):=by
 have rx:=aE h x
 have rl:=vT h hl
 have rh:=vT h hh
 unfold uB at hv
 split at hv
 ·rename_i i oq Rg
  obtain ⟨eC,u,e1,e2,e3,e4,e5,e6⟩:=bu E oq
  split at hv
  ·-- a string
   rename_i bs hk hx
   rw [hx] at rx
   have cD:Rel R w (.str bs) (a.eval x):=rx
   generalize dx:a.eval x=xv at cD
   cases cD
   rw [hk] at e5
   have:=gQ e5
   subst this
   split at hv
   ·rename_i c p q hb
    injection hv with hv
    injection hv with h1 h2
    subst h1; subst h2
    obtain ⟨k1,k2,k3⟩:=cL (E:=E) false (Nat.le_refl _) rl rh hb
    refine ak h (c:=.string ⟨⟨mg p q bs⟩⟩) ?_ (Rel.str _)
    rw [← tf]
    simp only [execOp,ho,Instr.sliceAt,Sem.run_bind,run_underlying e2,Result.andThen_ok,Instr.slice,dx,Option.map_none,Option.isSome_none,Bool.false_eq_true,if_false,size_bytes,k1,Sem.run_pure]
   ·cases hv
  ·-- a list
   rename_i elem esz ag lG z k sz es hk hx
   rw [hx] at rx
   rw [hk] at e5
   obtain ⟨ie,ue,rfl,f1,f2,f3,f4,f5,f6⟩:=cA e5
   split at hv
   ·rename_i cZ
    split at hv
    ·rename_i c p q hb
     injection hv with hv
     injection hv with h1 h2
     subst h1; subst h2
     have cD:Rel R w (.list k sz es) (a.eval x):=rx
     generalize dx:a.eval x=xv at cD
     cases cD with
     | gr=>
      obtain ⟨k1,k2,k3⟩:=cL (E:=E) true (Nat.le_refl _) rl rh hb
      simp only [List.length_nil,Nat.le_zero_eq] at k3
      subst k3
      have:p=0:=by omega
      subst this
      refine ak h (c:=.slice none 0 0) ?_ ?_
      ·simp only [execOp,ho,Instr.sliceAt,Sem.run_bind,run_underlying e2,Result.andThen_ok,Instr.slice,dx,Option.map_none]
       simp only [List.length_nil] at k1
       simp [k1,run_sizeOf w f1]
      ·exact Rel.gr
     | fy=>
      obtain ⟨k1,k2,k3⟩:=cL (E:=E) true (Nat.le_refl _) rl rh hb
      simp only [List.length_nil,Nat.le_zero_eq] at k3
      subst k3
      have:p=0:=by omega
      subst this
      refine ak h (c:=.slice none 0 0) ?_ ?_
      ·simp only [execOp,ho,Instr.sliceAt,Sem.run_bind,run_underlying e2,Result.andThen_ok,Instr.slice,dx,Option.map_none]
       simp only [List.length_nil] at k1
       simp [k1,run_sizeOf w f1]
      ·exact Rel.fy
     | @jK _ ad=>
      obtain ⟨k1,k2,k3⟩:=cL (E:=E) true (Nat.le_refl _) rl rh hb
      simp only [List.length_nil,Nat.le_zero_eq] at k3
      subst k3
      have:p=0:=by omega
      subst this
      refine ak h (c:=.slice (some ad) 0 0) ?_ ?_
      ·simp only [execOp,ho,Instr.sliceAt,Sem.run_bind,run_underlying e2,Result.andThen_ok,Instr.slice,dx,Option.map_none]
       simp only [List.length_nil] at k1
       simp [k1,run_sizeOf w f1]
      ·exact Rel.jK
     | jl h0 LI=>
      obtain ⟨k1,k2,k3⟩:=cL (E:=E) true (Nat.le_refl _) rl rh hb
      simp only [List.length_nil,Nat.le_zero_eq] at k3
      subst k3
      have:p=0:=by omega
      subst this
      refine ak h (c:=.slice none 0 0) ?_ ?_
      ·simp only [execOp,ho,Instr.sliceAt,Sem.run_bind,run_underlying e2,Result.andThen_ok,Instr.slice,dx,Option.map_none]
       simp only [List.length_nil] at k1
       simp [k1,run_sizeOf w f1]
      ·exact Rel.fy
     | iS h0 LI=>
      obtain ⟨k1,k2,k3⟩:=cL (E:=E) true (Nat.le_refl _) rl rh hb
      simp only [List.length_nil,Nat.le_zero_eq] at k3
      subst k3
      have:p=0:=by omega
      subst this
      refine ak h (c:=.slice none 0 0) ?_ ?_
      ·simp only [execOp,ho,Instr.sliceAt,Sem.run_bind,run_underlying e2,Result.andThen_ok,Instr.slice,dx,Option.map_none]
       simp only [List.length_nil] at k1
       simp [k1,run_sizeOf w f1]
      ·exact Rel.fy
     | @list _ _ _ b o' len cap hr hlen fg Ch=>
      subst hlen
      obtain ⟨k1,k2,k3⟩:=cL (E:=E) true fg rl rh hb
      have Mu:es≠[]→sz=esz:=fun bT=>by
       simp only [Bool.or_eq_true] at cZ
       rcases cZ with hc | hc
       ·exact Nat.eq_of_beq_eq_true hc
       ·simp at hc; exact absurd hc bT
      have aU:(execOp a.eval o).run E.P w=.ok (.value (.slice (if cap=p then some ⟨b,o',none⟩ else some ⟨b,o'+p * esz,none⟩) (q - p) (cap - p))) w:=by
       simp only [execOp,ho,Instr.sliceAt,Sem.run_bind,run_underlying e2,Result.andThen_ok,Instr.slice,dx,Option.map_none,k1,run_sizeOf w f1,f2,Sem.run_pure,Option.map_some,bG]
      have pg:∀ b2 o2,uD R (match k with | .nil=>LK.nil | .full=>(match h' with | none=>LK.full | some _=>LK.iy) | _=>LK.iy) b2 o2 (q - p) (cap - p):=by
       intro b2 o2
       cases k with
       | nil=>exact Ch.elim
       | iy=>trivial
       | own id=>trivial
       | aM id j=>trivial
       | full=>
        have hc:cap=es.length:=Ch
        cases h' with
        | some _=>trivial
        | none=>
         have hq:q=es.length:=by
          unfold xZ at hb
          simp only at hb
          split at hb
          ·cases hb
          ·injection hb with hb
           injection hb with _ hb
           injection hb with _ hb
           exact hb.symm
         show cap - p=q - p
         omega
      by_cases LJ:cap=p
      ·refine ak h (c:=.slice (some ⟨b,o',none⟩) (q - p) (cap - p)) (by rw [aU,if_pos LJ]) ?_
       have he:mg p q es=[]:=List.eq_nil_of_length_eq_zero (by rw [ky k3]; omega)
       exact Rel.list (by rw [he]; exact .nil) (by rw [ky k3]) (by omega) (pg _ _)
      ·refine ak h (c:=.slice (some ⟨b,o'+p * esz,none⟩) (q - p) (cap - p)) (by rw [aU,if_neg LJ]) ?_
       refine Rel.list ?_ (by rw [ky k3]) (by omega) (pg _ _)
       by_cases bT:es=[]
       ·subst bT
        simp [mg]
        exact .nil
       ·have:=Mu bT
        subst this
        exact tR p (ov q hr)
    ·cases hv
   ·cases hv
  ·-- a heap slice
   rename_i elem esz ag lG z id off sz len cap hk hx
   rw [hx] at rx
   rw [hk] at e5
   obtain ⟨ie,ue,rfl,f1,f2,f3,f4,f5,f6⟩:=cA e5
   split at hv
   ·rename_i cZ
    have cZ:=Nat.eq_of_beq_eq_true cZ
    subst cZ
    split at hv
    ·rename_i c p q hb
     injection hv with hv
     injection hv with h1 h2
     subst h1; subst h2
     have cD:Rel R w (.gn id off sz len cap) (a.eval x):=rx
     generalize dx:a.eval x=xv at cD
     cases cD with
     | @gn _ _ _ _ _ b Pf fg=>
      obtain ⟨k1,k2,k3⟩:=cL (E:=E) true fg rl rh hb
      refine ak h (c:=.slice (some ⟨b,bif Nat.beq cap p then off else off+p * sz,none⟩) (q - p) (cap - p)) ?_ (Rel.gn Pf (by omega))
      have hb:(bif Nat.beq cap p then off else off+p * sz)=if cap=p then off else off+p * sz:=by
       by_cases e:cap=p
       ·rw [if_pos e,e,show Nat.beq p p=true from Nat.beq_refl p]; rfl
       ·rw [if_neg e]
        cases hq:Nat.beq cap p with
        | true=>exact absurd (Nat.eq_of_beq_eq_true hq) e
        | false=>rfl
      rw [hb]
      simp only [execOp,ho,Instr.sliceAt,Sem.run_bind,run_underlying e2,Result.andThen_ok,Instr.slice,dx,Option.map_none,k1,run_sizeOf w f1,f2,Sem.run_pure,Option.map_some,bG]
      split <;> rfl
    ·cases hv
   ·cases hv
  ·-- a slice that grows
   rename_i elem esz ag lG z id f' off sz len hk hx
   rw [hx] at rx
   rw [hk] at e5
   obtain ⟨ie,ue,rfl,f1,f2,f3,f4,f5,f6⟩:=cA e5
   split at hv
   ·rename_i cZ
    have cZ:=Nat.eq_of_beq_eq_true cZ
    subst cZ
    split at hv
    ·rename_i c p q hb
     injection hv with hv
     injection hv with h1 h2
     subst h1; subst h2
     have cD:Rel R w (.dI id f' off sz len) (a.eval x):=rx
     generalize dx:a.eval x=xv at cD
     cases cD with
     | gu h0 LI=>
      obtain ⟨k1,k2,k3⟩:=cL (E:=E) true (Nat.le_refl _) rl rh hb
      simp only [Nat.le_zero_eq] at k3
      subst k3
      have:p=0:=by omega
      subst this
      refine ak h (c:=.slice none 0 0) ?_ ?_
      ·simp only [execOp,ho,Instr.sliceAt,Sem.run_bind,run_underlying e2,Result.andThen_ok,Instr.slice,dx,Option.map_none]
       simp [k1,run_sizeOf w f1]
      ·exact Rel.gu h0 LI
     | @dI _ _ _ _ _ cap b o' ro bj da fg=>
      obtain ⟨k1,k2,k3⟩:=cL (E:=E) true fg rl rh hb
      have aU:(execOp a.eval o).run E.P w=.ok (.value (.slice (if cap=p then some ⟨b,o',none⟩ else some ⟨b,o'+p * sz,none⟩) (q - p) (cap - p))) w:=by
       simp only [execOp,ho,Instr.sliceAt,Sem.run_bind,run_underlying e2,Result.andThen_ok,Instr.slice,dx,Option.map_none,k1,run_sizeOf w f1,f2,Sem.run_pure,Option.map_some,bG]
      have Jz:∀ o2,(o2=o'+p * sz∨cap=p)→AZ b o2 f' (off+p) sz (cap - p) ro:=fun o2 h2=>by
       cases ro with
       | none=>trivial
       | aZ=>exact da.elim
       | bn _=>exact da.elim
       | aM _=>exact da.elim
       | tok f1 b1 c1=>
        refine ⟨da.1,fun e=>?_⟩
        obtain ⟨q1,q2,q3⟩:=da.2 e
        refine ⟨q1,by omega,?_⟩
        rcases h2 with h2 | h2
        ·rcases q3 with q3 | q3
         ·exact .inl (by rw [h2,q3,Nat.add_mul])
         ·exact .inr (by omega)
        ·exact .inr (by omega)
      by_cases LJ:cap=p
      ·exact ak h (c:=.slice (some ⟨b,o',none⟩) (q - p) (cap - p)) (by rw [aU,if_pos LJ]) (Rel.dI bj (Jz _ (.inr LJ)) (by omega))
      ·exact ak h (c:=.slice (some ⟨b,o'+p * sz,none⟩) (q - p) (cap - p)) (by rw [aU,if_neg LJ]) (Rel.dI bj (Jz _ (.inl rfl)) (by omega))
    ·cases hv
   ·cases hv
  ·-- an array that never changes again
   rename_i len esz ag cs hk hx
   rw [hx] at rx
   rw [hk] at e5
   obtain ⟨e,ie,ue,rfl,f1,f2,f3,f4⟩:=ks e5
   split at hv
   ·split at hv
    ·rename_i bU
     simp only [Bool.and_eq_true] at bU
     obtain ⟨⟨⟨c1,c2⟩,c3⟩,c4⟩:=bU
     injection hv with hv
     injection hv with _ h2
     subst h2
     have cD:Rel R w (.ep cs) (a.eval x):=rx
     generalize dx:a.eval x=xv at cD
     cases cD with
     | @ep _ b o' hr=>
     obtain ⟨k1,_,_⟩:=cL (E:=E) (w:=w) (R:=R) (β:=β) (l:=0) (h:=len) false (Nat.le_refl len) rl rh rfl
     refine ak h (c:=.slice (some ⟨b,o',none⟩) len len) ?_ (Rel.list (zZ c3 len hr (Nat.le_of_ble_eq_true c1) c4) (lM _ _ _ _).symm (Nat.le_refl _) rfl)
     simp only [execOp,ho,Instr.sliceAt,Sem.run_bind,run_underlying e2,Result.andThen_ok,dx,Instr.sureAddr,Option.map_none,k1,run_sizeOf w f1,f2,Sem.run_pure]
     by_cases q9:len=0
     ·subst q9
      simp
     ·simp [q9,bG]
    ·cases hv
   ·cases hv
  ·cases hv
 ·cases hv
theorem uL (h:aP E R w β s a) (t:TypeId) (ho:o.op=.makeMap t none):bk E R w β s a o ((s.cJ (.map [])).put o.dst (.v (.map s.G.length))):=by
 have e9:eB (R.add (.bn w.heap.size)) (w.alloc (.map #[] 0)) (.map []) (.bn w.heap.size):=⟨#[],0,heap_alloc_new w _,trivial,rfl,fun i e he=>by simp at he⟩
 refine ⟨_,.map (some w.heap.size),w.alloc (.map #[] 0),R.add (.bn w.heap.size),β,?_,.inl rfl,(h.iV (.map #[] 0) (.map []) (.bn w.heap.size) (by exact fun _ h=>h) e9).put o.dst (x:=.v (.map s.G.length)) (Rel.map (eK h _)),by rw [aI]; exact cg h _ _ (by exact fun _ h=>h)⟩
 simp only [execOp,ho,Instr.makeMap,Option.map_none,Sem.run_bind,run_newObj,Result.andThen_ok,Sem.run_pure]
 rfl
theorem lN (h:aP E R w β s a) (t:TypeId) (x y:Operand) (ho:o.op=.makeSlice t x y) {i:TI} (hi:E.ti t=some i) {k k':IntKind} {n m:Int} (hx:aY E s.ae x=.v (.int k n)) (hy:aY E s.ae y=.v (.int k' m))
  {elem esz lG:Nat} {ag:Bool} {z:AV} (hk:i.k=.sl elem esz ag lG (some z)) (hz:z.cells.length=esz) (A7:1≤esz) (mQ:z.aG=true) (hc:0≤n∧n≤m∧m≤140737488355328∧m * lG≤140737488355328) :
  ∃ us,aA R w (an (List.replicate m.toNat z)) us∧(∀ v∈us,v.oneCell'=true)∧(execOp a.eval o).run E.P w=.ok (.value (.slice (some ⟨w.heap.size,0,none⟩) n.toNat m.toNat)) (w.alloc (.cells ⟨us⟩ elem)):=by
 have rx:=aE h x
 have ry:=aE h y
 rw [hx] at rx
 rw [hy] at ry
 have cD:Rel R w (.int k n) (a.eval x):=rx
 have lL:Rel R w (.int k' m) (a.eval y):=ry
 generalize dx:a.eval x=xv at cD
 generalize Mn:a.eval y=yv at lL
 cases cD
 cases lL
 obtain ⟨c1,c2,c3,c4⟩:=hc
 obtain ⟨eC,u,e1,e2,e3,e4,e5,e6⟩:=bu E hi
 rw [hk] at e5
 obtain ⟨ie,ue,rfl,f1,f2,f3,f4,f5,f6⟩:=cA e5
 obtain ⟨zc,mj,xT⟩:=b8 f6
 have Iy:=xT R w
 obtain ⟨d1,d2⟩:=Rel.cells Iy mQ
 have mP:zc.cells.size=esz:=by rw [← hz,d1.length]; simp
 obtain ⟨z1,z2⟩:=js Iy mQ m.toNat
 have q8:((Array.range (m.toNat * esz)).map fun i=>zc.cells[i % zc.cells.size]!)=⟨(List.replicate m.toNat zc.cells.toList).flatten⟩:=by
  apply Array.ext'
  rw [← mP]
  exact kw zc.cells m.toNat
 have wn:IntKind.i64.wrap n=n:=IntWalk.i64_in n (by omega)
 have wm:IntKind.i64.wrap m=m:=IntWalk.i64_in m (by omega)
 have aU:(Instr.makeSlice t (.int k n) (.int k' m)).run E.P w=.ok (.slice (some ⟨w.heap.size,0,none⟩) n.toNat m.toNat) (w.alloc (.cells ⟨(List.replicate m.toNat zc.cells.toList).flatten⟩ elem)):=by
  have UA:(ie.bytes:Int) * m≤281474976710656:=by rw [f3,Int.mul_comm]; omega
  have Mw:¬ 281474976710656 < (ie.bytes:Int) * m:=by omega
  have h1:¬ m < 0:=by omega
  have h2:¬ n < 0:=by omega
  have h3:¬ m < n:=by omega
  have JA:(typeInfo elem).run E.P w=.ok ie w:=by simp [typeInfo,f1]
  by_cases h0:m.toNat * esz=0
  ·have Sg:m.toNat=0:=by
    rcases Nat.mul_eq_zero.1 h0 with h0 | h0 <;> omega
   have vS:∀ f:Nat→Value,Array.map f (Array.range 0)=#[]:=fun f=>by simp
   simp [Instr.makeSlice,run_underlying e2,asInt,asIntOf,JA,wn,wm,h1,h2,h3,Mw,run_sizeOf w f1,f2,Sg,newRow]
   rw [vS]
  ·simp [Instr.makeSlice,run_underlying e2,asInt,asIntOf,JA,wn,wm,h1,h2,h3,Mw,run_sizeOf w f1,f2,h0,eD w f1 mj,newRow]
   rw [← q8]
 refine ⟨_,z1,z2,?_⟩
 simp only [execOp,ho,dx,Mn,Sem.run_bind,aU,Result.andThen_ok,Sem.run_pure]
theorem rb (h:aP E R w β s a) (t:TypeId) (x y:Operand) (ho:o.op=.makeSlice t x y) {i:TI} (hi:E.ti t=some i) {k k':IntKind} {n m:Int} (hx:aY E s.ae x=.v (.int k n)) (hy:aY E s.ae y=.v (.int k' m))
  {elem esz lG:Nat} {ag:Bool} {z:AV} (hk:i.k=.sl elem esz ag lG (some z)) (hz:z.cells.length=esz) (A7:1≤esz) (mQ:z.aG=true) (hc:0≤n∧n≤m∧m≤140737488355328∧m * lG≤140737488355328) :
  bk E R w β s a o ((s.cJ (.row (an (List.replicate m.toNat z)) elem)).put o.dst (.v (.gn s.G.length 0 esz n.toNat m.toNat))):=by
 obtain ⟨us,z1,z2,aU⟩:=lN h t x y ho hi hx hy hk hz A7 mQ hc
 have e:=eJ (R:=R) (w:=w) h.g.wf (.cells ⟨us⟩ elem) (.bn w.heap.size)
 have e9:eB (R.add (.bn w.heap.size)) (w.alloc (.cells ⟨us⟩ elem)) (.row (an (List.replicate m.toNat z)) elem) (.bn w.heap.size):=
  ⟨_,heap_alloc_new w _,z1.mono e,z2,fun o' hi=>by have:=h.g.wf _ _ hi; omega⟩
 exact ⟨_,.slice (some ⟨w.heap.size,0,none⟩) n.toNat m.toNat,_,R.add (.bn w.heap.size),β,aU,.inl rfl,(h.iV _ _ (.bn w.heap.size) (by exact fun _ h=>h) e9).put o.dst (x:=.v (.gn s.G.length 0 esz n.toNat m.toNat)) (Rel.gn (eK h _) (by omega)),by rw [aI]; exact cg h _ _ (by exact fun _ h=>h)⟩
end ops
end Go.Am
namespace Go.Am
open Go
section ops
variable {E:Env} {R:ah} {w:World} {β:Nat→Nat} {s:St} {a:Act} {o:Oper}
theorem gR (x:Array Operand) (f:Operand→Value):x.map f=⟨x.toList.map f⟩:=Array.ext' (by simp)
theorem cR {b:Builtin} {args:Array Operand} {tys:Array TypeId} (ho:o.op=.call { callee:=.builtin b,args:=args,argTypes:=tys }) (vs:List Value) (hv:args.toList.map a.eval=vs) :
  (execOp a.eval o).run E.P w=(builtin b tys o.type (args.map fun | .const _=>true | _=>false) ⟨vs⟩).run E.P w:=by
 simp only [execOp,ho,resolve,Sem.run_bind,Sem.run_pure,Result.andThen_ok,invoke,gR args a.eval,hv]
 rfl
theorem ck.length:∀ {l:List (AV × AV)} {es:List MapEntry},ck R w l es→l.length=es.length
 | [],[],_=>rfl
 | _ :: _,_ :: _,h=>by simp [ck.length h.2.2]
 | [],_ :: _,h=>h.elim
 | _ :: _,[],h=>h.elim
theorem Cn (h:aP E R w β s a) {args:Array Operand} {tys:List TypeId} (ho:o.op=.call { callee:=.builtin .len,args:=args,argTypes:=⟨tys⟩ }) {l:List AV} (hl:jf E s.ae args.toList=some l) {s':St} (hs:bf E s o.dst .len l tys=some (true,s')) :
  bk E R w β s a o s':=by
 have hr:=ef h hl
 generalize hv:args.toList.map a.eval=vs at hr
 have hx:=cR (E:=E) (w:=w) ho vs hv
 unfold bf at hs
 split at hs <;> first | (rename_i h1; cases h1; done) | skip
 ·rename_i x
  cases hr with
  | cons h0 h1=>
  cases h1
  split at hs
  ·rename_i t tl
   split at hs
   ·rename_i i hi
    obtain ⟨eC,u,e1,e2,e3,e4,e5,e6⟩:=bu E hi
    split at hs
    ·rename_i bs hk
     cases hs
     cases h0
     rw [hk] at e5
     have:=gQ e5
     subst this
     refine ak h (c:=.int .i64 bs.length) ?_ (Rel.int _ _)
     rw [hx]
     simp [builtin,Builtin.len_,run_underlying e2,goInt,size_bytes]
    ·rename_i kk sz es hk
     cases hs
     rw [hk] at e5
     obtain ⟨ie,ue,rfl,_⟩:=cA e5
     refine ak h (c:=.int .i64 es.length) ?_ (Rel.int _ _)
     rw [hx]
     cases h0 with
     | gr=>simp [builtin,Builtin.len_,run_underlying e2,goInt]
     | fy=>simp [builtin,Builtin.len_,run_underlying e2,goInt]
     | jK=>simp [builtin,Builtin.len_,run_underlying e2,goInt]
     | jl=>simp [builtin,Builtin.len_,run_underlying e2,goInt]
     | iS=>simp [builtin,Builtin.len_,run_underlying e2,goInt]
     | list _ hlen _ _=>subst hlen; simp [builtin,Builtin.len_,run_underlying e2,goInt]
    ·rename_i id off sz len cap hk
     cases hs
     rw [hk] at e5
     obtain ⟨ie,ue,rfl,_⟩:=cA e5
     refine ak h (c:=.int .i64 len) ?_ (Rel.int _ _)
     rw [hx]
     cases h0
     simp [builtin,Builtin.len_,run_underlying e2,goInt]
    ·rename_i id f' off sz len hk
     cases hs
     rw [hk] at e5
     obtain ⟨ie,ue,rfl,_⟩:=cA e5
     refine ak h (c:=.int .i64 len) ?_ (Rel.int _ _)
     rw [hx]
     cases h0 <;> simp [builtin,Builtin.len_,run_underlying e2,goInt]
    ·rename_i n esz ag hk
     cases hs
     rw [hk] at e5
     obtain ⟨e,ie,ue,rfl,_⟩:=ks e5
     refine ak h (c:=.int .i64 n) ?_ (Rel.int _ _)
     rw [hx]
     simp [builtin,Builtin.len_,run_underlying e2,goInt]
    ·rename_i hk
     cases hs
     rw [hk] at e5
     obtain ⟨rfl,_⟩:=jo e5
     refine ak h (c:=.int .i64 0) ?_ (Rel.int _ _)
     rw [hx]
     cases h0
     simp [builtin,Builtin.len_,run_underlying e2,goInt]
    ·rename_i id hk
     split at hs
     ·rename_i es hg
      cases hs
      rw [hk] at e5
      obtain ⟨rfl,_⟩:=jo e5
      cases h0 with
      | @map _ b hb=>
      obtain ⟨ar,clock,g1,g2,g3⟩:=h.g.obj id _ _ hg hb
      refine ak h (c:=.int .i64 es.length) ?_ (Rel.int _ _)
      rw [hx]
      have e9:(getObj b).run E.P w=.ok (.map ar clock) w:=by simp [getObj,Sem.run,g1]
      simp [builtin,Builtin.len_,run_underlying e2,goInt,e9,g2.length]
     ·cases hs
    ·cases hs
   ·cases hs
  ·cases hs
 ·cases hs
theorem z6 {b:Bool}:∀ {l:List AV} {x v:AV} {c:Value} {cs:List Value},Rel R w x c→aA R w l cs→AU x l=some v→∃ c',(cs.foldlM Builtin.max2 c).run E.P w=.ok c' w∧Rel R w v c'
 | [],x,v,c,cs,hr,hl,hv=>by
  cases hl
  simp only [AU] at hv
  cases hv
  exact ⟨c,rfl,hr⟩
 | y :: l,x,v,c,cs,hr,hl,hv=>by
  cases hl with
  | cons hy hl=>
  unfold AU at hv
  split at hv
  ·rename_i gJ; cases gJ
  ·rename_i k n k' m l' gJ
   cases gJ
   split at hv
   ·rename_i hk
    subst hk
    cases hr
    cases hy
    obtain ⟨c',h1,h2⟩:=z6 (b:=b) (Rel.int k (if m > n then m else n)) hl hv
    refine ⟨c',?_,h2⟩
    simp only [List.foldlM_cons,Sem.run_bind,Builtin.max2,Sem.run_pure,Result.andThen_ok]
    exact h1
   ·cases hv
  ·cases hv
theorem uM {b:Bool}:∀ {l:List AV} {x v:AV} {c:Value} {cs:List Value},Rel R w x c→aA R w l cs→x6 x l=some v→∃ c',(cs.foldlM Builtin.min2 c).run E.P w=.ok c' w∧Rel R w v c'
 | [],x,v,c,cs,hr,hl,hv=>by
  cases hl
  simp only [x6] at hv
  cases hv
  exact ⟨c,rfl,hr⟩
 | y :: l,x,v,c,cs,hr,hl,hv=>by
  cases hl with
  | cons hy hl=>
  unfold x6 at hv
  split at hv
  ·rename_i gJ; cases gJ
  ·rename_i k n k' m l' gJ
   cases gJ
   split at hv
   ·rename_i hk
    subst hk
    cases hr
    cases hy
    obtain ⟨c',h1,h2⟩:=uM (b:=b) (Rel.int k (if m < n then m else n)) hl hv
    refine ⟨c',?_,h2⟩
    simp only [List.foldlM_cons,Sem.run_bind,Builtin.min2,Sem.run_pure,Result.andThen_ok]
    exact h1
   ·cases hv
  ·rename_i n m l' gJ
   cases gJ
   cases hr
   cases hy
   obtain ⟨c',h1,h2⟩:=uM (b:=b) (Rel.str (bif Op.bytesLess n m || n == m then n else m)) hl hv
   refine ⟨c',?_,h2⟩
   have e:(Builtin.min2 (.string ⟨⟨n⟩⟩) (.string ⟨⟨m⟩⟩)).run E.P w=.ok (.string ⟨⟨bif Op.bytesLess n m || n == m then n else m⟩⟩) w:=by
    simp only [Builtin.min2,Op.stringOp,Sem.run_bind,Sem.run_pure,Result.andThen_ok]
    show Result.andThen ((asBool _).run E.P w) _=_
    cases hb:(Op.bytesLess n m || n == m) <;> simp_all [asBool]
   simp only [List.foldlM_cons,Sem.run_bind,e,Result.andThen_ok]
   exact h1
  ·cases hv
theorem Co (h:aP E R w β s a) {args:Array Operand} {tys:Array TypeId} (ho:o.op=.call { callee:=.builtin .max,args:=args,argTypes:=tys }) {x v:AV} {l:List AV} (hl:jf E s.ae args.toList=some (x :: l)) (hm:AU x l=some v) :
  bk E R w β s a o (s.put o.dst (.v v)):=by
 have hr:=ef h hl
 generalize hv:args.toList.map a.eval=vs at hr
 have hx:=cR (E:=E) (w:=w) ho vs hv
 cases hr with
 | cons h0 h1=>
 obtain ⟨c',k1,k2⟩:=z6 (E:=E) (b:=true) h0 h1 hm
 refine ak h (c:=c') ?_ k2
 rw [hx]
 simp [builtin,Builtin.max_,k1]
theorem Cp (h:aP E R w β s a) {args:Array Operand} {tys:Array TypeId} (ho:o.op=.call { callee:=.builtin .min,args:=args,argTypes:=tys }) {x v:AV} {l:List AV} (hl:jf E s.ae args.toList=some (x :: l)) (hm:x6 x l=some v) :
  bk E R w β s a o (s.put o.dst (.v v)):=by
 have hr:=ef h hl
 generalize hv:args.toList.map a.eval=vs at hr
 have hx:=cR (E:=E) (w:=w) ho vs hv
 cases hr with
 | cons h0 h1=>
 obtain ⟨c',k1,k2⟩:=uM (E:=E) (b:=true) h0 h1 hm
 refine ak h (c:=c') ?_ k2
 rw [hx]
 simp [builtin,Builtin.min_,k1]
end ops
end Go.Am
namespace Go.Am
open Go
section ops
variable {E:Env} {R:ah} {w:World} {β:Nat→Nat} {s:St} {a:Act} {o:Oper}
def ah.upto (R:ah) (g n:Nat) (obj:List RO):ah:=⟨fun b o=>R.I b o∨(b=g∧o < n),obj⟩
theorem ay {l:List RO} {id i:Nat} {x r y:RO} (Sh:nth l id=some y) (h:nth (aw l id x) i=some r):(i=id∧r=x)∨(i≠id∧nth l i=some r):=by
 rcases ca h with ⟨rfl,rfl,_⟩ | ⟨bT,h⟩
 ·exact .inl ⟨rfl,rfl⟩
 ·exact .inr ⟨Ne.symm bT,h⟩
theorem yn (wf:∀ b o,R.I b o→b < w.heap.size) (x:Obj) (n:Nat) (ro:RO):Ext R w (R.upto w.heap.size n (R.obj++[ro])) (w.drew.alloc x):=
 ⟨fun _ _ h=>.inl h,fun b o h=>bo (heap_alloc_old w.drew x b (wf b o h)) o,fun _ r h=>⟨r,cb h,bF.refl r⟩,.old fun b hb=>heap_alloc_old w.drew x b hb⟩
theorem yo (wf:∀ b o,R.I b o→b < w.heap.size) (x:Obj) {n id m:Nat} {r0:RO} (hid:nth R.obj id=some r0) (b' c':Nat) (bD:bF r0 (.tok m b' c')):Ext R w (R.upto w.heap.size n (aw R.obj id (.tok m b' c'))) (w.drew.alloc x):=
 ⟨fun _ _ h=>.inl h,fun b o h=>bo (heap_alloc_old w.drew x b (wf b o h)) o,fun i r h=>by
  by_cases e:id=i
  ·subst e
   rw [hid] at h
   cases h
   exact ⟨_,az hid,bD⟩
  ·exact ⟨r,by rw [ah.upto,a7 e]; exact h,bF.refl r⟩,.old fun b hb=>heap_alloc_old w.drew x b hb⟩
theorem aP.JB (h:aP E R w β s a) {cur:Array Value} {elem:TypeId} {n sz cap:Nat} (hn:n≤cap) (hm:cap≤maxLen) (hs:cur.size=cap * sz) :
  aP E (R.upto w.heap.size (n * sz) (R.obj++[.tok n w.heap.size cap])) (w.drew.alloc (.cells cur elem)) β (s.cJ (.tok n sz elem)) a ∧
  Step R w β s.boxes (R.upto w.heap.size (n * sz) (R.obj++[.tok n w.heap.size cap])) (w.drew.alloc (.cells cur elem)) β s.boxes:=by
 have e:=yn (R:=R) (w:=w) h.g.wf (.cells cur elem) (n * sz) (.tok n w.heap.size cap)
 have old:∀ b,b < w.heap.size→(w.drew.alloc (.cells cur elem)).heap[b]?=w.heap[b]?:=fun b hb=>heap_alloc_old w.drew _ b hb
 have new:(w.drew.alloc (.cells cur elem)).heap[w.heap.size]?=some (.cells cur elem (0,0)):=heap_alloc_new w.drew _
 have hI:∀ b o,b < w.heap.size→(R.upto w.heap.size (n * sz) (R.obj++[.tok n w.heap.size cap])).I b o→R.I b o:=fun b o hb hi=>by
  rcases hi with hi | ⟨hi,_⟩
  ·exact hi
  ·omega
 refine ⟨⟨⟨by simp [St.cJ,ah.upto,h.g.len],fun id g r h1 h2=>?_,fun i j ri rj b h1 h2 b1 b2=>?_,fun b o hi=>?_,fun g cs hg=>(h.g.bY g cs hg).mono e,by first | exact h.g.lo | exact Nat.le_succ_of_le h.g.lo⟩,?_,h.t.mono e,h.n,h.d.mono e⟩,?_⟩
 ·rcases ao h2 with h2 | ⟨h3,rfl⟩
  ·have bD:=ba h2
   rw [h.g.len] at bD
   rcases ao h1 with h1 | ⟨h4,_⟩
   ·exact (h.g.obj id g r h1 h2).mono e (fun b hb=>old b (h.g.bl ⟨id,r,h2,hb⟩)) (fun b o hb=>hI b o (h.g.bl ⟨id,r,h2,hb⟩))
   ·omega
  ·rcases ao h1 with h1 | ⟨h4,rfl⟩
   ·have:=ba h1
    rw [h3,h.g.len] at this
    omega
   ·refine ⟨rfl,cur,new,hn,hm,hs,fun o' lO hi=>?_⟩
    rcases hi with hi | ⟨_,hi⟩
    ·have:=h.g.wf _ _ hi
     omega
    ·omega
 ·rcases ao h1 with g1 | ⟨h3,e1⟩
  ·rcases ao h2 with g2 | ⟨h4,e2⟩
   ·exact h.g.inj i j ri rj b g1 g2 b1 b2
   ·have:=h.g.bl ⟨i,ri,g1,b1⟩
    rw [e2] at b2
    simp [RO.has] at b2
    omega
  ·rcases ao h2 with g2 | ⟨h4,e2⟩
   ·have:=h.g.bl ⟨j,rj,g2,b2⟩
    rw [e1] at b1
    simp [RO.has] at b1
    omega
   ·omega
 ·rcases hi with hi | ⟨rfl,_⟩
  ·have:=h.g.wf b o hi
   simp
   omega
  ·simp
 ·refine h.b.bA e (fun k cs hk=>old _ (h.cN (.inr ⟨k,cs,hk,rfl⟩))) (fun k cs o hk=>hI _ o (h.cN (.inr ⟨k,cs,hk,rfl⟩))) (fun k cs hk hl=>?_)
  rcases jn (R:=R) (ro:=.tok n w.heap.size cap) hl with hl | hl
  ·exact hl
  ·have:=h.cN (.inr ⟨k,cs,hk,rfl⟩)
   simp [RO.has] at hl
   omega
 ·refine ⟨e,rfl,rfl,rfl,by simp,fun b hb _=>old b hb,fun b hb ho=>?_,fun b o hi hb _=>hI b o hb hi⟩
  rcases ho with ho | ho
  ·rcases jn (R:=R) (ro:=.tok n w.heap.size cap) ho with ho | ho
   ·exact .inl ho
   ·simp [RO.has] at ho
    omega
  ·exact .inr ho
theorem vU (wf:∀ b o,R.I b o→b < w.heap.size) (x:Obj) (n:Nat) (ro:RO):Ext R w (R.upto w.heap.size n (R.obj++[ro])) (w.alloc x):=
 ⟨fun _ _ h=>.inl h,fun b o h=>bo (heap_alloc_old w x b (wf b o h)) o,fun _ r h=>⟨r,cb h,bF.refl r⟩,.old fun b hb=>heap_alloc_old w x b hb⟩
theorem aP.Fj (h:aP E R w β s a) {cur:Array Value} {elem:TypeId} {n sz cap:Nat} (hn:n≤cap) (hm:cap≤maxLen) (hs:cur.size=cap * sz) :
  aP E (R.upto w.heap.size (n * sz) (R.obj++[.tok n w.heap.size cap])) (w.alloc (.cells cur elem)) β (s.cJ (.tok n sz elem)) a ∧
  Step R w β s.boxes (R.upto w.heap.size (n * sz) (R.obj++[.tok n w.heap.size cap])) (w.alloc (.cells cur elem)) β s.boxes:=by
 have e:=vU (R:=R) (w:=w) h.g.wf (.cells cur elem) (n * sz) (.tok n w.heap.size cap)
 have old:∀ b,b < w.heap.size→(w.alloc (.cells cur elem)).heap[b]?=w.heap[b]?:=fun b hb=>heap_alloc_old w _ b hb
 have new:(w.alloc (.cells cur elem)).heap[w.heap.size]?=some (.cells cur elem (0,0)):=heap_alloc_new w _
 have hI:∀ b o,b < w.heap.size→(R.upto w.heap.size (n * sz) (R.obj++[.tok n w.heap.size cap])).I b o→R.I b o:=fun b o hb hi=>by
  rcases hi with hi | ⟨hi,_⟩
  ·exact hi
  ·omega
 refine ⟨⟨⟨by simp [St.cJ,ah.upto,h.g.len],fun id g r h1 h2=>?_,fun i j ri rj b h1 h2 b1 b2=>?_,fun b o hi=>?_,fun g cs hg=>(h.g.bY g cs hg).mono e,by first | exact h.g.lo | exact Nat.le_succ_of_le h.g.lo⟩,?_,h.t.mono e,h.n,h.d.mono e⟩,?_⟩
 ·rcases ao h2 with h2 | ⟨h3,rfl⟩
  ·have bD:=ba h2
   rw [h.g.len] at bD
   rcases ao h1 with h1 | ⟨h4,_⟩
   ·exact (h.g.obj id g r h1 h2).mono e (fun b hb=>old b (h.g.bl ⟨id,r,h2,hb⟩)) (fun b o hb=>hI b o (h.g.bl ⟨id,r,h2,hb⟩))
   ·omega
  ·rcases ao h1 with h1 | ⟨h4,rfl⟩
   ·have:=ba h1
    rw [h3,h.g.len] at this
    omega
   ·refine ⟨rfl,cur,new,hn,hm,hs,fun o' lO hi=>?_⟩
    rcases hi with hi | ⟨_,hi⟩
    ·have:=h.g.wf _ _ hi
     omega
    ·omega
 ·rcases ao h1 with g1 | ⟨h3,e1⟩
  ·rcases ao h2 with g2 | ⟨h4,e2⟩
   ·exact h.g.inj i j ri rj b g1 g2 b1 b2
   ·have:=h.g.bl ⟨i,ri,g1,b1⟩
    rw [e2] at b2
    simp [RO.has] at b2
    omega
  ·rcases ao h2 with g2 | ⟨h4,e2⟩
   ·have:=h.g.bl ⟨j,rj,g2,b2⟩
    rw [e1] at b1
    simp [RO.has] at b1
    omega
   ·omega
 ·rcases hi with hi | ⟨rfl,_⟩
  ·have:=h.g.wf b o hi
   simp
   omega
  ·simp
 ·refine h.b.bA e (fun k cs hk=>old _ (h.cN (.inr ⟨k,cs,hk,rfl⟩))) (fun k cs o hk=>hI _ o (h.cN (.inr ⟨k,cs,hk,rfl⟩))) (fun k cs hk hl=>?_)
  rcases jn (R:=R) (ro:=.tok n w.heap.size cap) hl with hl | hl
  ·exact hl
  ·have:=h.cN (.inr ⟨k,cs,hk,rfl⟩)
   simp [RO.has] at hl
   omega
 ·refine ⟨e,rfl,rfl,rfl,by simp,fun b hb _=>old b hb,fun b hb ho=>?_,fun b o hi hb _=>hI b o hb hi⟩
  rcases ho with ho | ho
  ·rcases jn (R:=R) (ro:=.tok n w.heap.size cap) ho with ho | ho
   ·exact .inl ho
   ·simp [RO.has] at ho
    omega
  ·exact .inr ho
theorem oB (h:aP E R w β s a) (t:TypeId) (len:Nat) (parts:Array (Nat × Operand)) (ho:o.op=.buildSlice t len parts) {k:LK} {esz:Nat} {es:List AV} (hv:bq E s t len parts.toList=some (.list k esz es)) {i:TI} (hi:E.ti t=some i) {elem a8 lG:Nat} {ag:Bool} {z:Option AV} (hk:i.k=.sl elem a8 ag lG z) (hm:len≤65536) :
  bk E R w β s a o ((s.cJ (.tok len esz elem)).put o.dst (.v (.list (.own s.G.length) esz es))):=by
 obtain ⟨es',Jw,us,Mx,Mt,aU,g2,hlen,u2,u3,i',Pe,Ms,z',oq,ga⟩:=fh h t len parts ho hv
 cases Mt
 rw [hi] at oq
 cases oq
 rw [hk] at ga
 cases ga
 have My:us.length=len * esz:=by rw [← u2.length,cE g2,hlen]
 obtain ⟨r1,r2⟩:=h.Fj (cur:=⟨us⟩) (elem:=elem) (n:=len) (sz:=esz) (cap:=len) (Nat.le_refl _) (by simp [maxLen]; omega) (by simpa using My)
 refine ⟨_,.slice (some ⟨w.heap.size,0,none⟩) len len,_,_,β,aU,.inl rfl,r1.put o.dst (x:=.v (.list (.own s.G.length) esz es)) ?_,by rw [aI]; exact r2⟩
 refine Rel.list (jr g2 (cG.make (u2.mono r2.ext) u3 (fun j x hx=>?_) (fun j hj=>.inr ⟨rfl,?_⟩))) hlen.symm (Nat.le_refl _) ⟨.tok len w.heap.size len,eK h _,?_⟩
 ·rw [fM (heap_alloc_new w _)]
  simpa using hx
 ·rw [cE g2,hlen] at hj
  omega
 ·exact ⟨Nat.le_refl _,fun _=>⟨rfl,rfl,rfl⟩⟩
theorem aP.Cq (h:aP E R w β s a) {cur:Array Value} {elem e0:TypeId} {n sz cap id f:Nat} {r0:RO} (hg:nth s.G id=some (.tok f sz e0)) (hid:nth R.obj id=some r0) (hf:∀ b c,bF r0 (.tok n b c)) (hn:n≤cap) (hm:cap≤maxLen) (hs:cur.size=cap * sz) :
  aP E (R.upto w.heap.size (n * sz) (aw R.obj id (.tok n w.heap.size cap))) (w.drew.alloc (.cells cur elem)) β (s.bp (aw s.G id (.tok n sz elem))) a ∧
  Step R w β s.boxes (R.upto w.heap.size (n * sz) (aw R.obj id (.tok n w.heap.size cap))) (w.drew.alloc (.cells cur elem)) β s.boxes:=by
 have e:=yo (R:=R) (w:=w) (n:=n * sz) h.g.wf (.cells cur elem) hid w.heap.size cap (hf _ _)
 have old:∀ b,b < w.heap.size→(w.drew.alloc (.cells cur elem)).heap[b]?=w.heap[b]?:=fun b hb=>heap_alloc_old w.drew _ b hb
 have new:(w.drew.alloc (.cells cur elem)).heap[w.heap.size]?=some (.cells cur elem (0,0)):=heap_alloc_new w.drew _
 have hI:∀ b o,b < w.heap.size→(R.upto w.heap.size (n * sz) (aw R.obj id (.tok n w.heap.size cap))).I b o→R.I b o:=fun b o hb hi=>by
  rcases hi with hi | ⟨hi,_⟩
  ·exact hi
  ·omega
 have live:∀ b,b < w.heap.size→Live (R.upto w.heap.size (n * sz) (aw R.obj id (.tok n w.heap.size cap))) b→Live R b:=fun b hb hl=>by
  obtain ⟨i,r,h1,h2⟩:=hl
  rcases ay hid h1 with ⟨_,rfl⟩ | ⟨_,h1⟩
  ·simp [RO.has] at h2
   omega
  ·exact ⟨i,r,h1,h2⟩
 refine ⟨⟨⟨by simp [St.bp,ah.upto,h.g.len],fun i gg r h1 h2=>?_,fun i j ri rj b h1 h2 b1 b2=>?_,fun b o hi=>?_,fun g cs hg=>(h.g.bY g cs hg).mono e,by first | exact h.g.lo | exact Nat.le_succ_of_le h.g.lo⟩,?_,h.t.mono e,h.n,h.d.mono e⟩,?_⟩
 ·rcases ay hid h2 with ⟨rfl,rfl⟩ | ⟨bT,h2⟩
  ·simp only [St.bp] at h1
   rw [az hg] at h1
   cases h1
   refine ⟨rfl,cur,new,hn,hm,hs,fun o' lO hi=>?_⟩
   rcases hi with hi | ⟨_,hi⟩
   ·have:=h.g.wf _ _ hi
    omega
   ·omega
  ·simp only [St.bp] at h1
   rw [a7 (Ne.symm bT)] at h1
   exact (h.g.obj i gg r h1 h2).mono e (fun b hb=>old b (h.g.bl ⟨i,r,h2,hb⟩)) (fun b o hb=>hI b o (h.g.bl ⟨i,r,h2,hb⟩))
 ·rcases ay hid h1 with ⟨g3,e1⟩ | ⟨g3,g1⟩
  ·rcases ay hid h2 with ⟨g4,e2⟩ | ⟨g4,g2⟩
   ·omega
   ·have:=h.g.bl ⟨j,rj,g2,b2⟩
    rw [e1] at b1
    simp [RO.has] at b1
    omega
  ·rcases ay hid h2 with ⟨g4,e2⟩ | ⟨g4,g2⟩
   ·have:=h.g.bl ⟨i,ri,g1,b1⟩
    rw [e2] at b2
    simp [RO.has] at b2
    omega
   ·exact h.g.inj i j ri rj b g1 g2 b1 b2
 ·rcases hi with hi | ⟨rfl,_⟩
  ·have:=h.g.wf b o hi
   simp
   omega
  ·simp
 ·exact h.b.bA e (fun k cs hk=>old _ (h.cN (.inr ⟨k,cs,hk,rfl⟩))) (fun k cs o hk=>hI _ o (h.cN (.inr ⟨k,cs,hk,rfl⟩))) (fun k cs hk hl=>live _ (h.cN (.inr ⟨k,cs,hk,rfl⟩)) hl)
 ·refine ⟨e,rfl,rfl,rfl,by simp,fun b hb _=>old b hb,fun b hb ho=>?_,fun b o hi hb _=>hI b o hb hi⟩
  rcases ho with ho | ho
  ·exact .inl (live b hb ho)
  ·exact .inr ho
theorem aP.Fk (h:aP E R w β s a) {cur:Array Value} {news:List Value} {elem:TypeId} {n sz id f g c:Nat} (hg:nth s.G id=some (.tok f sz elem)) (hid:nth R.obj id=some (.tok f g c)) (hf:f < n) (hn:n≤c)
  (ft:w.heap[g]?=some (.cells cur elem (0,0))) (hs:cur.size=c * sz) (hm:c≤maxLen) (hl:f * sz+news.length=n * sz) :
  Ext R w (R.upto g (n * sz) (aw R.obj id (.tok n g c))) (w.setRow g (cur.toList.take (f * sz)++news++cur.toList.drop (f * sz+news.length)).toArray) ∧
  aP E (R.upto g (n * sz) (aw R.obj id (.tok n g c))) (w.setRow g (cur.toList.take (f * sz)++news++cur.toList.drop (f * sz+news.length)).toArray) β (s.bp (aw s.G id (.tok n sz elem))) a ∧
  Step R w β s.boxes (R.upto g (n * sz) (aw R.obj id (.tok n g c))) (w.setRow g (cur.toList.take (f * sz)++news++cur.toList.drop (f * sz+news.length)).toArray) β s.boxes:=by
 obtain ⟨_,vV,Iz,_,_,_,gS⟩:=h.g.obj id _ _ hg hid
 rw [ft] at Iz
 cases Iz
 have hle:n * sz≤c * sz:=Nat.mul_le_mul_right _ hn
 generalize nh:(cur.toList.take (f * sz)++news++cur.toList.drop (f * sz+news.length)).toArray=cur2
 have old:∀ b,b≠g→(w.setRow g cur2).heap[b]?=w.heap[b]?:=fun b hb=>setRow_other w g b cur2 hb
 have new:(w.setRow g cur2).heap[g]?=some (.cells cur2 elem (0,0)):=setRow_heap w g cur cur2 elem (0,0) ft
 have hlen:f * sz≤cur.toList.length:=by simp; omega
 have cZ:cur2.size=c * sz:=by
  rw [← nh]
  simp
  omega
 have n4:Live R g:=⟨id,_,hid,rfl⟩
 have e:Ext R w (R.upto g (n * sz) (aw R.obj id (.tok n g c))) (w.setRow g cur2):=by
  refine ⟨fun _ _ hi=>.inl hi,fun b o hi=>?_,fun i r hr=>?_,fun b r hb=>⟨r,(old b fun e=>by subst e; rw [ft] at hb; cases hb).trans hb,rfl,rfl,rfl,rfl,rfl⟩⟩
  ·by_cases hb:b=g
   ·subst hb
    have ho:o < f * sz:=Nat.lt_of_not_le fun hle=>gS o hle hi
    simp only [World.cell?,new,ft]
    have:cur2[o]?=cur[o]?:=by
     rw [← nh,List.append_assoc]
     simp only [List.getElem?_toArray]
     rw [List.getElem?_append_left (by simp; omega),List.getElem?_take,if_pos ho,Array.getElem?_toList]
    simp [this]
   ·exact bo (old b hb) o
  ·by_cases ei:id=i
   ·subst ei
    rw [hid] at hr
    cases hr
    exact ⟨_,az hid,by omega,fun e=>by omega⟩
   ·exact ⟨r,by rw [ah.upto,a7 ei]; exact hr,bF.refl r⟩
 have hI:∀ b o,b≠g→(R.upto g (n * sz) (aw R.obj id (.tok n g c))).I b o→R.I b o:=fun b o hb hi=>by
  rcases hi with hi | ⟨hi,_⟩
  ·exact hi
  ·exact absurd hi hb
 have live:∀ b,Live (R.upto g (n * sz) (aw R.obj id (.tok n g c))) b→Live R b:=fun b hl=>by
  obtain ⟨i,r,h1,h2⟩:=hl
  rcases ay hid h1 with ⟨_,rfl⟩ | ⟨_,h1⟩
  ·exact ⟨id,_,hid,h2⟩
  ·exact ⟨i,r,h1,h2⟩
 have ml:∀ k cs,cz s.boxes k=some cs→β k≠g:=fun k cs hk eq=>(h.b.box k cs hk).2.2 (eq ▸ n4)
 refine ⟨e,⟨⟨by simp [St.bp,ah.upto,h.g.len],fun i gg r h1 h2=>?_,fun i j ri rj b h1 h2 b1 b2=>?_,fun b o hi=>?_,fun g cs hg=>(h.g.bY g cs hg).mono e,by first | exact h.g.lo | exact Nat.le_succ_of_le h.g.lo⟩,?_,h.t.mono e,h.n,h.d.mono e⟩,?_⟩
 ·rcases ay hid h2 with ⟨rfl,rfl⟩ | ⟨bT,h2⟩
  ·simp only [St.bp] at h1
   rw [az hg] at h1
   cases h1
   refine ⟨rfl,cur2,new,hn,hm,cZ,fun o' lO hi=>?_⟩
   rcases hi with hi | ⟨_,hi⟩
   ·exact gS o' (Nat.le_trans (Nat.mul_le_mul_right _ (Nat.le_of_lt hf)) lO) hi
   ·omega
  ·simp only [St.bp] at h1
   rw [a7 (Ne.symm bT)] at h1
   have JC:∀ b,r.has b→b≠g:=fun b hb eq=>bT (h.g.inj i id _ _ b h2 hid hb (by rw [eq]; rfl))
   exact (h.g.obj i gg r h1 h2).mono e (fun b hb=>old b (JC b hb)) (fun b o hb=>hI b o (JC b hb))
 ·rcases ay hid h1 with ⟨g3,e1⟩ | ⟨g3,g1⟩
  ·rcases ay hid h2 with ⟨g4,e2⟩ | ⟨g4,g2⟩
   ·omega
   ·rw [e1] at b1
    exact g3.trans (h.g.inj id j _ _ b hid g2 b1 b2)
  ·rcases ay hid h2 with ⟨g4,e2⟩ | ⟨g4,g2⟩
   ·rw [e2] at b2
    exact (h.g.inj i id _ _ b g1 hid b1 b2).trans g4.symm
   ·exact h.g.inj i j ri rj b g1 g2 b1 b2
 ·rcases hi with hi | ⟨rfl,_⟩
  ·have:=h.g.wf b o hi
   simpa using this
  ·have:=aQ ft
   simpa using this
 ·exact h.b.bA e (fun k cs hk=>old _ (ml k cs hk)) (fun k cs o hk=>hI _ o (ml k cs hk)) (fun k cs hk hl=>live _ hl)
 ·refine ⟨e,rfl,rfl,rfl,by simp,fun b hb oC=>old b (fun eq=>oC (.inl (eq ▸ n4))),fun b hb ho=>?_,fun b o hi hb oC=>hI b o (fun eq=>oC (.inl (eq ▸ n4))) hi⟩
  rcases ho with ho | ho
  ·exact .inl (live b ho)
  ·exact .inr ho
structure One (w w':World) (x:Obj):Prop where
 old:∀ b,b < w.heap.size→w'.heap[b]?=w.heap[b]?
 new:w'.heap[w.heap.size]?=some x
 size:w'.heap.size=w.heap.size+1
 os:w'.os=w.os
 tape:w'.tape=w.tape
 output:w'.output=w.output
 drawn:w.drawn≤w'.drawn
theorem One.alloc (w:World) (x:Obj):One w (w.alloc x) x:=⟨fun b hb=>heap_alloc_old w x b hb,heap_alloc_new w x,by simp,rfl,rfl,rfl,Nat.le_refl _⟩
theorem One.drew (w:World) (x:Obj):One w (w.drew.alloc x) x:=⟨fun b hb=>heap_alloc_old w.drew x b hb,heap_alloc_new w.drew x,by simp,rfl,rfl,rfl,Nat.le_succ _⟩
theorem Fl {w':World} {x:Obj} (o1:One w w' x) (wf:∀ b o,R.I b o→b < w.heap.size) {n id:Nat} {r0 r1:RO} (hid:nth R.obj id=some r0) (hle:bF r0 r1):Ext R w (R.upto w.heap.size n (aw R.obj id r1)) w':=
 ⟨fun _ _ h=>.inl h,fun b o h=>bo (o1.old b (wf b o h)) o,fun i r h=>by
  by_cases e:id=i
  ·subst e
   rw [hid] at h
   cases h
   exact ⟨_,az hid,hle⟩
  ·exact ⟨r,by rw [ah.upto,a7 e]; exact h,bF.refl r⟩,.old fun b hb=>o1.old b hb⟩
theorem aP.JD (h:aP E R w β s a) {w':World} {x:Obj} (o1:One w w' x) {n id:Nat} {r0 r1:RO} {BZ go:GO} (hg:nth s.G id=some BZ) (hid:nth R.obj id=some r0) (hle:bF r0 r1) (rk:∀ b,r1.has b→b=w.heap.size∨r0.has b)
  (e9:eB (R.upto w.heap.size n (aw R.obj id r1)) w' go r1) :
  aP E (R.upto w.heap.size n (aw R.obj id r1)) w' β (s.bp (aw s.G id go)) a∧Step R w β s.boxes (R.upto w.heap.size n (aw R.obj id r1)) w' β s.boxes:=by
 have e:=Fl (R:=R) (n:=n) o1 h.g.wf hid hle
 have hI:∀ b o,b < w.heap.size→(R.upto w.heap.size n (aw R.obj id r1)).I b o→R.I b o:=fun b o hb hi=>by
  rcases hi with hi | ⟨hi,_⟩
  ·exact hi
  ·omega
 have live:∀ b,b < w.heap.size→Live (R.upto w.heap.size n (aw R.obj id r1)) b→Live R b:=fun b hb hl=>by
  obtain ⟨i,r,h1,h2⟩:=hl
  rcases ay hid h1 with ⟨_,rfl⟩ | ⟨_,h1⟩
  ·rcases rk b h2 with h3 | h3
   ·omega
   ·exact ⟨id,r0,hid,h3⟩
  ·exact ⟨i,r,h1,h2⟩
 refine ⟨⟨⟨by simp [St.bp,ah.upto,h.g.len],fun i gg r h1 h2=>?_,fun i j ri rj b h1 h2 b1 b2=>?_,fun b o hi=>?_,fun g cs hg=>(h.g.bY g cs hg).mono e,Nat.le_trans h.g.lo o1.drawn⟩,?_,h.t.mono e,h.n,h.d.mono e⟩,?_⟩
 ·rcases ay hid h2 with ⟨rfl,rfl⟩ | ⟨bT,h2⟩
  ·simp only [St.bp] at h1
   rw [az hg] at h1
   cases h1
   exact e9
  ·simp only [St.bp] at h1
   rw [a7 (Ne.symm bT)] at h1
   exact (h.g.obj i gg r h1 h2).mono e (fun b hb=>o1.old b (h.g.bl ⟨i,r,h2,hb⟩)) (fun b o hb=>hI b o (h.g.bl ⟨i,r,h2,hb⟩))
 ·rcases ay hid h1 with ⟨g3,e1⟩ | ⟨g3,g1⟩
  ·rcases ay hid h2 with ⟨g4,e2⟩ | ⟨g4,g2⟩
   ·omega
   ·rw [e1] at b1
    rcases rk b b1 with b3 | b3
    ·have:=h.g.bl ⟨j,rj,g2,b2⟩
     omega
    ·exact g3.trans (h.g.inj id j _ _ b hid g2 b3 b2)
  ·rcases ay hid h2 with ⟨g4,e2⟩ | ⟨g4,g2⟩
   ·rw [e2] at b2
    rcases rk b b2 with b3 | b3
    ·have:=h.g.bl ⟨i,ri,g1,b1⟩
     omega
    ·exact (h.g.inj i id _ _ b g1 hid b1 b3).trans g4.symm
   ·exact h.g.inj i j ri rj b g1 g2 b1 b2
 ·rcases hi with hi | ⟨rfl,_⟩
  ·have:=h.g.wf b o hi
   rw [o1.size]
   omega
  ·rw [o1.size]; omega
 ·exact h.b.bA e (fun k cs hk=>o1.old _ (h.cN (.inr ⟨k,cs,hk,rfl⟩))) (fun k cs o hk=>hI _ o (h.cN (.inr ⟨k,cs,hk,rfl⟩))) (fun k cs hk hl=>live _ (h.cN (.inr ⟨k,cs,hk,rfl⟩)) hl)
 ·refine ⟨e,o1.os,o1.tape,o1.output,by rw [o1.size]; omega,fun b hb _=>o1.old b hb,fun b hb ho=>?_,fun b o hi hb _=>hI b o hb hi⟩
  rcases ho with ho | ho
  ·exact .inl (live b hb ho)
  ·exact .inr ho
theorem aP.Fm (h:aP E R w β s a) {cur cur2:Array Value} {elem:TypeId} {n id g:Nat} {r0 r1:RO} {BZ go:GO} (hg:nth s.G id=some BZ) (hid:nth R.obj id=some r0) (IA:r0.has g) (hle:bF r0 r1) (rk:∀ b,r1.has b→r0.has b)
  (ft:w.heap[g]?=some (.cells cur elem (0,0))) (rm:∀ o,R.I g o→cur2[o]?=cur[o]?)
  (e9:Ext R w (R.upto g n (aw R.obj id r1)) (w.setRow g cur2)→eB (R.upto g n (aw R.obj id r1)) (w.setRow g cur2) go r1) :
  Ext R w (R.upto g n (aw R.obj id r1)) (w.setRow g cur2)∧aP E (R.upto g n (aw R.obj id r1)) (w.setRow g cur2) β (s.bp (aw s.G id go)) a∧Step R w β s.boxes (R.upto g n (aw R.obj id r1)) (w.setRow g cur2) β s.boxes:=by
 have old:∀ b,b≠g→(w.setRow g cur2).heap[b]?=w.heap[b]?:=fun b hb=>setRow_other w g b cur2 hb
 have new:(w.setRow g cur2).heap[g]?=some (.cells cur2 elem (0,0)):=setRow_heap w g cur cur2 elem (0,0) ft
 have n4:Live R g:=⟨id,_,hid,IA⟩
 have e:Ext R w (R.upto g n (aw R.obj id r1)) (w.setRow g cur2):=by
  refine ⟨fun _ _ hi=>.inl hi,fun b o hi=>?_,fun i r hr=>?_,fun b r hb=>⟨r,(old b fun e=>by subst e; rw [ft] at hb; cases hb).trans hb,rfl,rfl,rfl,rfl,rfl⟩⟩
  ·by_cases hb:b=g
   ·subst hb
    simp only [World.cell?,new,ft,rm o hi]
   ·exact bo (old b hb) o
  ·by_cases ei:id=i
   ·subst ei
    rw [hid] at hr
    cases hr
    exact ⟨_,az hid,hle⟩
   ·exact ⟨r,by rw [ah.upto,a7 ei]; exact hr,bF.refl r⟩
 have hI:∀ b o,b≠g→(R.upto g n (aw R.obj id r1)).I b o→R.I b o:=fun b o hb hi=>by
  rcases hi with hi | ⟨hi,_⟩
  ·exact hi
  ·exact absurd hi hb
 have live:∀ b,Live (R.upto g n (aw R.obj id r1)) b→Live R b:=fun b hl=>by
  obtain ⟨i,r,h1,h2⟩:=hl
  rcases ay hid h1 with ⟨_,rfl⟩ | ⟨_,h1⟩
  ·exact ⟨id,_,hid,rk b h2⟩
  ·exact ⟨i,r,h1,h2⟩
 have ml:∀ k cs,cz s.boxes k=some cs→β k≠g:=fun k cs hk eq=>(h.b.box k cs hk).2.2 (eq ▸ n4)
 refine ⟨e,⟨⟨by simp [St.bp,ah.upto,h.g.len],fun i gg r h1 h2=>?_,fun i j ri rj b h1 h2 b1 b2=>?_,fun b o hi=>?_,fun g cs hg=>(h.g.bY g cs hg).mono e,h.g.lo⟩,?_,h.t.mono e,h.n,h.d.mono e⟩,?_⟩
 ·rcases ay hid h2 with ⟨rfl,rfl⟩ | ⟨bT,h2⟩
  ·simp only [St.bp] at h1
   rw [az hg] at h1
   cases h1
   exact e9 e
  ·simp only [St.bp] at h1
   rw [a7 (Ne.symm bT)] at h1
   have JC:∀ b,r.has b→b≠g:=fun b hb eq=>bT (h.g.inj i id _ _ b h2 hid hb (by rw [eq]; exact IA))
   exact (h.g.obj i gg r h1 h2).mono e (fun b hb=>old b (JC b hb)) (fun b o hb=>hI b o (JC b hb))
 ·rcases ay hid h1 with ⟨g3,e1⟩ | ⟨g3,g1⟩
  ·rcases ay hid h2 with ⟨g4,e2⟩ | ⟨g4,g2⟩
   ·omega
   ·rw [e1] at b1
    exact g3.trans (h.g.inj id j _ _ b hid g2 (rk b b1) b2)
  ·rcases ay hid h2 with ⟨g4,e2⟩ | ⟨g4,g2⟩
   ·rw [e2] at b2
    exact (h.g.inj i id _ _ b g1 hid b1 (rk b b2)).trans g4.symm
   ·exact h.g.inj i j ri rj b g1 g2 b1 b2
 ·rcases hi with hi | ⟨rfl,_⟩
  ·have:=h.g.wf b o hi
   simpa using this
  ·have:=aQ ft
   simpa using this
 ·exact h.b.bA e (fun k cs hk=>old _ (ml k cs hk)) (fun k cs o hk=>hI _ o (ml k cs hk)) (fun k cs hk hl=>live _ hl)
 ·refine ⟨e,rfl,rfl,rfl,by simp,fun b hb oC=>old b (fun eq=>oC (.inl (eq ▸ n4))),fun b hb ho=>?_,fun b o hi hb oC=>hI b o (fun eq=>oC (.inl (eq ▸ n4))) hi⟩
  rcases ho with ho | ho
  ·exact .inl (live b ho)
  ·exact .inr ho
theorem oo.set {ts:List TR} {j:Nat} {t t':TR} (ht:nth ts j=some t) (hle:iT t t'):oo ts (aw ts j t'):=fun i u hu=>by
 by_cases e:j=i
 ·subst e
  rw [ht] at hu
  cases hu
  exact ⟨t',az ht,hle⟩
 ·exact ⟨u,by rw [a7 e]; exact hu,iT.refl u⟩
theorem z7 {ts:List TR} {j n g c b:Nat} (h:RO.has (.aM (aw ts j (.tok n g c))) b):b=g∨RO.has (.aM ts) b:=by
 obtain ⟨i,f,c',hi⟩:=h
 rcases ca hi with ⟨_,e,_⟩ | ⟨_,hi⟩
 ·cases e; exact .inl rfl
 ·exact .inr ⟨i,f,c',hi⟩
theorem tL.of {R':ah} {w':World} {sz f:Nat} {e:TypeId} {t:TR} (h:tL R w sz e f t) (hold:∀ f b c,t=.tok f b c→w'.heap[b]?=w.heap[b]?∧∀ o,R'.I b o→R.I b o):tL R' w' sz e f t:=by
 cases t with
 | aZ=>exact h
 | full f'=>exact h
 | tok f' b c=>
  obtain ⟨h0,cur,h1,h2,h3,h4,h5⟩:=h
  obtain ⟨k1,k2⟩:=hold f' b c rfl
  exact ⟨h0,cur,k1.trans h1,h2,h3,h4,fun o ho hi=>h5 o ho (k2 o hi)⟩
theorem qP.set {R':ah} {w':World} {sz:Nat} {e:TypeId} {fs:List Nat} {ts:List TR} (h:qP R w sz e fs ts) {j n g c:Nat} (nh:tL R' w' sz e n (.tok n g c)) (Cr:∀ i f c,nth ts i=some (.tok f g c)→i=j)
  (hold:∀ i f b c,i≠j→nth ts i=some (.tok f b c)→w'.heap[b]?=w.heap[b]?∧∀ o,R'.I b o→R.I b o):qP R' w' sz e (aw fs j n) (aw ts j (.tok n g c)):=by
 obtain ⟨h1,h2,h3⟩:=h
 refine ⟨by simp [h1],fun i i' f1 b c1 f2 c2 q1 q2=>?_,fun i f1 t1 q1 q2=>?_⟩
 ·rcases ca q1 with ⟨n1,e1,_⟩ | ⟨n1,q1⟩
  ·cases e1
   rcases ca q2 with ⟨n2,_,_⟩ | ⟨n2,q2⟩
   ·exact n1.symm.trans n2
   ·exact absurd (Cr _ _ _ q2).symm n2
  ·rcases ca q2 with ⟨n2,e2,_⟩ | ⟨n2,q2⟩
   ·cases e2
    exact (Cr _ _ _ q1).trans n2
   ·exact h2 i i' _ _ _ _ _ q1 q2
 ·rcases ca q1 with ⟨n1,e1,_⟩ | ⟨n1,q1⟩
  ·rcases ca q2 with ⟨_,e2,_⟩ | ⟨n2,_⟩
   ·subst e1 e2
    exact nh
   ·exact absurd n1 n2
  ·rcases ca q2 with ⟨n2,_,_⟩ | ⟨n2,q2⟩
   ·exact absurd n2 n1
   ·exact (h3 i f1 t1 q1 q2).of fun f b c ht=>by subst ht; exact hold i f b c (Ne.symm n2) q2
end ops
end Go.Am
