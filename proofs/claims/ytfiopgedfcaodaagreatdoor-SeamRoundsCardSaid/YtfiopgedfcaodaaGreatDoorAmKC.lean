/- The abstract machine: what it does is what the model does: slices that are built and cut. -/
import Derived.Test.YtfiopgedfcaodaaGreatDoorAmKB
import Derived.IntWalk
set_option linter.all false
namespace Go.Am
open Go
theorem cellsL_append (l r:List AV):cellsL (l++r)=cellsL l++cellsL r:=by
 induction l with
 | nil=>rfl
 | cons e l ih=>simp [cellsL,ih]
theorem length_cellsL {sz:Nat} {es:List AV} (h:ElOk sz es):(cellsL es).length=es.length * sz:=by
 induction es with
 | nil=>simp [cellsL]
 | cons e es ih=>
  have h1:=(h e (by simp)).1
  have:=ih (fun x hx=>h x (by simp [hx]))
  simp only [cellsL,List.length_append,this,h1,List.length_cons,Nat.add_mul]
  omega
section rel
variable {R:Realm} {w:World}
theorem relE_make {b sz:Nat}:∀ {es:List AV} {o:Nat},ElOk sz es→RelC R w b o (cellsL es)→RelE R w b o sz es
 | [],_,_,_=>.nil
 | e :: es,o,h,hc=>by
  obtain ⟨h1,h2,h3⟩:=h e (by simp)
  obtain ⟨vs,k1,k2,k3,k4⟩:=hc.get
  have hd:=hc.drop sz
  have hdrop:(cellsL (e :: es)).drop sz=cellsL es:=by simp only [cellsL]; rw [← h1,List.drop_left]
  have htake:(cellsL (e :: es)).take sz=e.cells:=by simp only [cellsL]; rw [← h1,List.take_left]
  rw [hdrop] at hd
  refine .cons h1 h2 h3 ?_ (relE_make (fun x hx=>h x (by simp [hx])) hd)
  have kt:=k1.take sz
  rw [htake] at kt
  refine .make kt (fun v hv=>k2 v (List.mem_of_mem_take hv)) (fun j v hv=>k3 j v ?_) (fun j hj=>k4 j ?_)
  ·rw [List.getElem?_take] at hv
   split at hv
   ·exact hv
   ·cases hv
  ·simp only [cellsL,List.length_append]
   omega
theorem relE_cells {b sz:Nat}:∀ {es:List AV} {o:Nat},RelE R w b o sz es→ElOk sz es∧∃ vs,RelL R w (cellsL es) vs∧(∀ v∈vs,v.oneCell'=true)∧(∀ j v,vs[j]?=some v→w.cell? ⟨b,o+j,none⟩=some v)∧∀ j,j < es.length * sz→R.I b (o+j)
 | [],o,_=>⟨fun e he=>by simp at he,[],.nil,by simp,by simp,by simp⟩
 | e :: es,o,h=>by
  cases h with
  | cons hl ht hk hc t=>
   obtain ⟨g0,vs,g1,g2,g3,g4⟩:=relE_cells t
   obtain ⟨us,f1,f2,f3,f4⟩:=hc.get
   have hlen:us.length=sz:=by rw [← f1.length,hl]
   refine ⟨fun x hx=>?_,us++vs,f1.append g1,fun v hv=>?_,fun j v hv=>?_,fun j hj=>?_⟩
   ·rcases List.mem_cons.1 hx with rfl | hx
    ·exact ⟨hl,ht,hk⟩
    ·exact g0 x hx
   ·rcases List.mem_append.1 hv with hv | hv
    ·exact f2 v hv
    ·exact g2 v hv
   ·by_cases hj:j < sz
    ·rw [List.getElem?_append_left (by omega)] at hv
     exact f3 j v hv
    ·rw [List.getElem?_append_right (by omega),hlen] at hv
     have:=g3 _ v hv
     rwa [show o+sz+(j - sz)=o+j by omega] at this
   ·by_cases hj':j < sz
    ·exact f4 j (by omega)
    ·have:=g4 (j - sz) (by simp only [List.length_cons,Nat.add_mul] at hj; omega)
     rwa [show o+sz+(j - sz)=o+j by omega] at this
theorem relE_drop {b sz:Nat}:∀ (n:Nat) {es:List AV} {o:Nat},RelE R w b o sz es→RelE R w b (o+n * sz) sz (es.drop n)
 | 0,es,o,h=>by simpa using h
 | n+1,[],o,h=>by simpa using RelE.nil
 | n+1,e :: es,o,h=>by
  cases h with
  | cons hl ht hk hc t=>
   have:=relE_drop n t
   rw [show o+sz+n * sz=o+(n+1) * sz by rw [Nat.add_mul]; omega] at this
   simpa using this
theorem relE_take {b sz:Nat}:∀ (n:Nat) {es:List AV} {o:Nat},RelE R w b o sz es→RelE R w b o sz (es.take n)
 | 0,es,o,h=>by simpa using RelE.nil
 | n+1,[],o,h=>by simpa using RelE.nil
 | n+1,e :: es,o,h=>by
  cases h with
  | cons hl ht hk hc t=>simpa using RelE.cons hl ht hk hc (relE_take n t)
end rel
theorem elOk_replicate {sz n:Nat} {z:AV} (h1:z.cells.length=sz) (h2:z.notTup=true) (h3:z.closed=true):ElOk sz (List.replicate n z):=fun e he=>by
 rw [List.mem_replicate] at he
 rw [he.2]
 exact ⟨h1,h2,h3⟩
theorem setN_cells {sz:Nat}:∀ {es:List AV} {i:Nat} {v:AV},ElOk sz es→i < es.length→v.cells.length=sz→cellsL (setN es i v)=splice (cellsL es) (i * sz) v.cells
 | [],i,v,_,h,_=>by simp at h
 | e :: es,0,v,h,_,hv=>by
  have h1:=(h e (by simp)).1
  simp only [setN,cellsL,Nat.zero_mul]
  rw [splice_eq _ 0 _ (by simp; omega)]
  simp only [List.take_zero,List.nil_append,Nat.zero_add]
  rw [hv,← h1,List.drop_left]
 | e :: es,i+1,v,h,hi,hv=>by
  have h1:=(h e (by simp)).1
  have hes:ElOk sz es:=fun x hx=>h x (by simp [hx])
  have ih:=setN_cells (i:=i) (v:=v) hes (by simpa using hi) hv
  have hlt:i < es.length:=by simpa using hi
  have hle:i * sz+sz≤es.length * sz:=by rw [← Nat.succ_mul]; exact Nat.mul_le_mul_right _ hlt
  have hl:=length_cellsL hes
  simp only [setN,cellsL]
  have e1:(i+1) * sz=e.cells.length+i * sz:=by rw [h1,Nat.succ_mul]; omega
  have e2:List.take (e.cells.length+i * sz) e.cells=e.cells:=List.take_of_length_le (by omega)
  rw [ih,splice_eq _ _ _ (by omega),e1,splice_eq _ _ _ (by simp only [List.length_append]; omega)]
  rw [List.take_append,e2,Nat.add_assoc,List.drop_append,List.drop_of_length_le (by omega:e.cells.length≤e.cells.length+(i * sz+v.cells.length))]
  simp [Nat.add_sub_cancel_left]
theorem elOk_setN {sz:Nat} {es:List AV} {i:Nat} {v:AV} (h:ElOk sz es) (h1:v.cells.length=sz) (h2:v.notTup=true) (h3:v.closed=true):ElOk sz (setN es i v):=fun e he=>by
 rw [setN_eq] at he
 rcases List.mem_or_eq_of_mem_set he with he | rfl
 ·exact h e he
 ·exact ⟨h1,h2,h3⟩
theorem fillE_fillA {sz:Nat}:∀ {ps:List (Nat × AV)} {es es':List AV},fillE sz es ps=some es'→ElOk sz es →
  fillA (fun i=>some (i * sz,sz)) (cellsL es) ps=some (cellsL es')∧ElOk sz es'∧es'.length=es.length
 | [],es,es',h,hk=>by simp [fillE] at h; subst h; exact ⟨rfl,hk,rfl⟩
 | (i,v) :: ps,es,es',h,hk=>by
  unfold fillE at h
  split at h
  ·rename_i hc
   simp only [Bool.and_eq_true] at hc
   obtain ⟨⟨⟨hn,hl⟩,hi⟩,hk0⟩:=hc
   have hl':=Nat.eq_of_beq_eq_true hl
   have hi':=Nat.le_of_ble_eq_true hi
   obtain ⟨g1,g2,g3⟩:=fillE_fillA h (elOk_setN hk hl' hn hk0)
   refine ⟨?_,g2,by simpa using g3⟩
   unfold fillA
   have hle:Nat.ble (i * sz+sz) (cellsL es).length=true:=by
    apply Nat.ble_eq_true_of_le
    rw [length_cellsL hk,← Nat.succ_mul]
    exact Nat.mul_le_mul_right _ hi'
   simp only [hn,hl,hle,Bool.and_self,if_true]
   rw [← setN_cells hk (by omega) hl']
   exact g1
  ·cases h
section ops
variable {E:Env} {R:Realm} {w:World} {β:Nat→Nat} {s:St} {a:Act} {o:Oper}
def Realm.imm (R:Realm) (b:Nat):Realm:=⟨fun b' o=>R.I b' o∨b'=b,R.obj⟩
theorem ext_imm (wf:∀ b o,R.I b o→b < w.heap.size) (x:Obj):Ext R w (R.imm w.heap.size) (w.alloc x):=
 ⟨fun _ _ h=>.inl h,fun b o h=>cell_of_block (heap_alloc_old w x b (wf b o h)) o,fun _ ro h=>⟨ro,h,RoLe.refl ro⟩,.old fun b hb=>heap_alloc_old w x b hb⟩
theorem Rep.imm (h:Rep E R w β s a) (x:Obj):Rep E (R.imm w.heap.size) (w.alloc x) β s a:=
 h.keep (ext_imm h.g.wf x) rfl (fun b hb=>heap_alloc_old w x b (h.own_lt hb)) (fun b o hb hi=>by
  rcases hi with hi | hi
  ·exact hi
  ·have:=h.own_lt hb
   omega) (fun b o hi=>by
  rcases hi with hi | hi
  ·have:=h.g.wf b o hi
   simp
   omega
  ·simp
   omega)
theorem step_imm (h:Rep E R w β s a) (x:Obj):Step R w β s.boxes (R.imm w.heap.size) (w.alloc x) β s.boxes:=
 ⟨ext_imm h.g.wf x,rfl,rfl,rfl,by simp,fun b hb _=>heap_alloc_old w x b hb,fun _ _ ho=>ho,fun b o hi hb _=>by
  rcases hi with hi | hi
  ·exact hi
  ·omega⟩
theorem zero_row (z:Array Value):∀ (n:Nat),(((Array.range (n * z.size)).map fun i=>z[i % z.size]!)).toList=(List.replicate n z.toList).flatten
 | 0=>by simp
 | n+1=>by
  have ih:=zero_row z n
  simp only [Array.toList_map,Array.toList_range] at ih ⊢
  rw [Nat.add_mul,Nat.one_mul,List.range_add,List.map_append,ih,List.replicate_succ',List.flatten_append]
  congr 1
  simp only [List.map_map,List.flatten_cons,List.flatten_nil,List.append_nil]
  apply List.ext_getElem?
  intro i
  by_cases hi:i < z.size
  ·simp only [List.getElem?_map,List.getElem?_range hi,Option.map_some,Function.comp_apply]
   rw [Nat.mul_comm n,Nat.mul_add_mod,Nat.mod_eq_of_lt hi]
   simp [hi]
  ·rw [List.getElem?_eq_none (by simp; omega),List.getElem?_eq_none (by simp; omega)]
theorem rel_zeros {z:AV} {c:Value} (hr:Rel R w z c) (hn:z.notTup=true):∀ (n:Nat),RelL R w (cellsL (List.replicate n z)) (List.replicate n c.cells.toList).flatten∧∀ v∈(List.replicate n c.cells.toList).flatten,v.oneCell'=true
 | 0=>by simp [cellsL]; exact .nil
 | n+1=>by
  obtain ⟨c1,c2⟩:=Rel.cells hr hn
  obtain ⟨h1,h2⟩:=rel_zeros hr hn n
  refine ⟨?_,fun v hv=>?_⟩
  ·simpa [List.replicate_succ,cellsL] using c1.append h1
  ·simp only [List.replicate_succ,List.flatten_cons,List.mem_append] at hv
   rcases hv with hv | hv
   ·exact c2 v hv
   ·exact h2 v hv
theorem weakP_rel:∀ {ps:List (Nat × AV)} {us:List Value},RelL R w (ps.map (·.2)) us→RelL R w ((weakP ps).map (·.2)) us
 | [],_,h=>h
 | (_,_) :: _,_,.cons h t=>.cons h.weak (weakP_rel t)
theorem weakP_fst:∀ (ps:List (Nat × AV)),(weakP ps).map (·.1)=ps.map (·.1)
 | []=>rfl
 | (i,v) :: l=>by simp [weakP,weakP_fst l]
theorem buildSlice_run (h:Rep E R w β s a) (t:TypeId) (len:Nat) (parts:Array (Nat × Operand)) (ho:o.op=.buildSlice t len parts) {v:AV} (hv:buildSliceA E s t len parts.toList=some v) :
  ∃ es esz us elem,v=.list .full esz es∧(execOp a.eval o).run E.P w=.ok (.value (.slice (some ⟨w.heap.size,0,none⟩) len len)) (w.alloc (.cells ⟨us⟩ elem))∧ElOk esz es∧es.length=len∧RelL R w (cellsL es) us∧(∀ x∈us,x.oneCell'=true)∧∃ i ag by_ z,E.ti t=some i∧i.k=.sl elem esz ag by_ z:=by
 unfold buildSliceA at hv
 split at hv
 ·rename_i i ps hi hps
  split at hv
  ·rename_i elem esz ag by_ z hk
   split at hv
   ·rename_i hc
    simp only [Bool.and_eq_true] at hc
    obtain ⟨⟨⟨⟨hz1,hz2⟩,hz3⟩,hz4⟩,hz5⟩:=hc
    have hz1:=Nat.eq_of_beq_eq_true hz1
    have hz2:=Nat.le_of_ble_eq_true hz2
    have hz3:=Nat.le_of_ble_eq_true hz3
    split at hv
    ·rename_i es hes
     cases hv
     obtain ⟨info,u,e1,e2,e3,e4,e5,e6⟩:=ti_info E hi
     rw [hk] at e5
     obtain ⟨ie,ue,rfl,f1,f2,f3,f4,f5,f6⟩:=tkOf_sl e5
     obtain ⟨zc,hzc,hzr⟩:=constOf_some f6
     have hzR:=hzr R w
     obtain ⟨c1,c2⟩:=Rel.cells hzR hz4
     have hcs:zc.cells.size=esz:=by rw [← hz1,c1.length]; simp
     obtain ⟨p1,p2⟩:=evP_rel h hps
     obtain ⟨z1,z2⟩:=rel_zeros hzR hz4 len
     obtain ⟨g1,g2,g3⟩:=fillE_fillA hes (elOk_replicate hz1 hz4 hz5)
     obtain ⟨us,u1,u2,u3⟩:=fill_rel (R:=R) (w:=w) _ (weakP_rel p1) ((weakP_fst ps).trans p2) z1 z2 g1
     have epm:(parts.map fun (x:Nat × Operand)=>(x.1,a.eval x.2)).toList=parts.toList.map fun x=>(x.1,a.eval x.2):=by simp
     have hrow:((Array.range (len * esz)).map fun i=>zc.cells[i % zc.cells.size]!)=⟨(List.replicate len zc.cells.toList).flatten⟩:=by
      apply Array.ext'
      rw [← hcs]
      exact zero_row zc.cells len
     have hlen:es.length=len:=by simpa using g3
     have hrun:(Instr.buildSlice t len (parts.map fun (x:Nat × Operand)=>(x.1,a.eval x.2))).run E.P w=.ok (.slice (some ⟨w.heap.size,0,none⟩) len len) (w.alloc (.cells ⟨us⟩ elem)):=by
      have hgt:¬ len * esz > 2 ^ 24:=by omega
      by_cases h0:len * esz=0
      ·have hl0:len=0:=by
        rcases Nat.mul_eq_zero.1 h0 with h0 | h0 <;> omega
       subst hl0
       have u1':Instr.fill (fun i=>some (i * esz,esz)) #[] (parts.toList.map fun x=>(x.1,a.eval x.2))=some ⟨us⟩:=by simpa using u1
       simp only [Instr.buildSlice,Sem.run_bind,run_underlying e2,Result.andThen_ok,run_sizeOf w f1,f2]
       simp only [Nat.zero_mul,gt_iff_lt,Nat.not_lt_zero,if_false,if_true,Sem.run_bind,Sem.run_pure,Result.andThen_ok,epm]
       have hmap0:∀ f:Nat→Value,Array.map f (Array.range 0)=#[]:=fun f=>by simp
       simp only [hmap0,u1',newRow,Sem.run_bind,run_newObj,Result.andThen_ok,Sem.run_pure]
       rfl
      ·simp only [Instr.buildSlice,Sem.run_bind,run_underlying e2,Result.andThen_ok,run_sizeOf w f1,f2]
       rw [if_neg hgt,if_neg h0]
       simp only [Sem.run_bind,Sem.run_pure,Result.andThen_ok,run_zeroValue w f1 hzc,epm,hrow,u1,newRow,run_newObj]
       rfl
     exact ⟨es,esz,us,elem,rfl,by simp only [execOp,ho,Sem.run_bind,hrun,Result.andThen_ok,Sem.run_pure],g2,hlen,u2,u3,i,ag,by_,_,hi,hk⟩
    ·cases hv
   ·cases hv
  ·cases hv
 ·cases hv
theorem exec_buildSlice (h:Rep E R w β s a) (t:TypeId) (len:Nat) (parts:Array (Nat × Operand)) (ho:o.op=.buildSlice t len parts) {v:AV} (hv:buildSliceA E s t len parts.toList=some v) :
  Done E R w β s a o (s.put o.dst (.v v)):=by
 obtain ⟨es,esz,us,elem,rfl,hrun,g2,hlen,u2,u3,_⟩:=buildSlice_run h t len parts ho hv
 have e:=ext_imm (R:=R) (w:=w) h.g.wf (.cells ⟨us⟩ elem)
 refine ⟨_,.slice (some ⟨w.heap.size,0,none⟩) len len,_,R.imm w.heap.size,β,hrun,.inl rfl,(h.imm (.cells ⟨us⟩ elem)).put o.dst ?_,by rw [boxes_put]; exact step_imm h _⟩
 refine Rel.list (relE_make g2 (RelC.make (u2.mono e) u3 (fun j x hx=>?_) (fun j _=>.inr rfl))) hlen.symm (Nat.le_refl _) rfl
 rw [cell_row (heap_alloc_new w _)]
 simpa using hx
theorem exec_buildSliceM (h:Rep E R w β s a) (t:TypeId) (len:Nat) (parts:Array (Nat × Operand)) (ho:o.op=.buildSlice t len parts) {k:LK} {esz:Nat} {es:List AV} (hv:buildSliceA E s t len parts.toList=some (.list k esz es)) {i:TI} (hi:E.ti t=some i) {el:TypeId} {sz' eb:Nat} {ag:Bool} {z:Option AV} (hk:i.k=.sl el sz' ag eb z) :
  Done E R w β s a o ((s.addG (.row (cellsL es) el)).put o.dst (.v (.msl s.G.length 0 esz len len))):=by
 obtain ⟨es',esz',us,elem,hve,hrun,g2,hlen,u2,u3,i',ag',by',z',hi',hk'⟩:=buildSlice_run h t len parts ho hv
 cases hve
 rw [hi] at hi'
 cases hi'
 rw [hk] at hk'
 cases hk'
 have e:=ext_add (R:=R) (w:=w) h.g.wf (.cells ⟨us⟩ el) (.blk w.heap.size)
 have hgo:RepO (R.add (.blk w.heap.size)) (w.alloc (.cells ⟨us⟩ el)) (.row (cellsL es) el) (.blk w.heap.size):=
  ⟨_,heap_alloc_new w _,u2.mono e,u3,fun o' hi=>by have:=h.g.wf _ _ hi; omega⟩
 exact ⟨_,_,_,R.add (.blk w.heap.size),β,hrun,.inl rfl,(h.addObj _ _ _ (by exact fun _ h=>h) hgo).put o.dst (x:=.v (.msl s.G.length 0 esz len len)) (Rel.msl (nth_new h _) (Nat.le_refl _)),by rw [boxes_put]; exact step_addObj h _ _ (by exact fun _ h=>h)⟩
end ops
end Go.Am
namespace Go.Am
open Go
section ops
variable {E:Env} {R:Realm} {w:World} {β:Nat→Nat} {s:St} {a:Act} {o:Oper}
def RelO (R:Realm) (w:World) (β:Nat→Nat):Option SV→Option Value→Prop
 | none,none=>True
 | some x,some c=>RelS R w β x c
 | _,_=>False
theorem run_bound {y y' n:Nat} {x:SV} {c:Value} (hx:RelS R w β x c) (hb:boundA y x=some (true,n)) (hy:y≤y') (code:BoundsCode) :
  (Instr.sliceBound c y' code).run E.P w=.ok n w∧n≤y:=by
 unfold boundA at hb
 split at hb
 ·rename_i k m
  injection hb with hb
  injection hb with h1 h2
  subst h2
  obtain ⟨h0,h3⟩:=of_decide_eq_true h1
  have hx':Rel R w (.int k m) c:=hx
  cases hx'
  exact ⟨run_sliceBound (P:=E.P) w k m y' code h0 (by omega),by omega⟩
 ·cases hb
theorem run_bounds (isS:Bool) {len cap l h:Nat} (hlc:len≤cap) {lo hi:Option SV} {lv hv:Option Value} (hl:RelO R w β lo lv) (hh:RelO R w β hi hv) (hb:lohi len lo hi=some (true,l,h)) :
  (Instr.sliceBounds isS len cap lv hv none).run E.P w=.ok (l,h,cap) w∧l≤h∧h≤len:=by
 unfold lohi at hb
 split at hb
 ·cases hb
 ·rename_i c1 h' heq
  split at hb
  ·cases hb
  ·rename_i c2 l' heq2
   injection hb with hb
   injection hb with hc hb
   injection hb with e1 e2
   subst e1; subst e2
   simp only [Bool.and_eq_true] at hc
   obtain ⟨rfl,rfl⟩:=hc
   have H:∃ _:True,(match hv with | some v=>Instr.sliceBound v cap (if isS=true then .sliceAcap else .sliceAlen) | none=>pure len).run E.P w=.ok h' w∧h'≤len:=by
    refine ⟨trivial,?_⟩
    cases hi with
    | none=>cases hv with
     | none=>simp at heq; subst heq; exact ⟨rfl,Nat.le_refl _⟩
     | some v=>exact hh.elim
    | some x=>cases hv with
     | none=>exact hh.elim
     | some v=>exact run_bound (E:=E) hh heq hlc _
   have L:∃ _:True,(match lv with | some v=>Instr.sliceBound v h' .sliceB | none=>pure 0).run E.P w=.ok l' w∧l'≤h':=by
    refine ⟨trivial,?_⟩
    cases lo with
    | none=>cases lv with
     | none=>simp at heq2; subst heq2; exact ⟨rfl,Nat.zero_le _⟩
     | some v=>exact hl.elim
    | some x=>cases lv with
     | none=>exact hl.elim
     | some v=>exact run_bound (E:=E) hl heq2 (Nat.le_refl _) _
   obtain ⟨_,H1,H2⟩:=H
   obtain ⟨_,L1,L2⟩:=L
   refine ⟨?_,L2,H2⟩
   cases hv <;> cases lv <;> simp_all [Instr.sliceBounds]
theorem optO_rel (h:Rep E R w β s a) {x:Option Operand} {y:Option SV} (hx:optO E s.slots x=some y):RelO R w β y (x.map a.eval):=by
 cases x with
 | none=>simp [optO] at hx; subst hx; trivial
 | some x=>simp [optO] at hx; subst hx; exact evO_rel h x
theorem subA_length {α:Type} {l:List α} {lo hi:Nat} (h:hi≤l.length):(subA lo hi l).length=hi - lo:=by
 simp [subA]
 omega
theorem extract_bytes (l:List UInt8) (lo hi:Nat):(⟨⟨l⟩⟩:ByteArray).extract lo hi=⟨⟨subA lo hi l⟩⟩:=by
 apply ByteArray.ext
 rw [ByteArray.data_extract]
 apply Array.ext'
 simp [List.extract_eq_take_drop,subA,List.drop_take]
theorem relE_ep {ag:Bool} {b sz:Nat} (hsz:(ag || Nat.beq sz 1)=true):∀ (n:Nat) {cs:List AV} {o:Nat},RelC R w b o cs→n * sz≤cs.length→allFit (elemOk ag) (elemsT ag sz n cs)=true→RelE R w b o sz (elemsT ag sz n cs)
 | 0,_,_,_,_,_=>.nil
 | n+1,cs,o,hc,hl,hf=>by
  simp only [elemsT,allFit,Bool.and_eq_true] at hf
  obtain ⟨hf1,hf2⟩:=hf
  unfold elemOk at hf1
  simp only [Bool.and_eq_true] at hf1
  obtain ⟨⟨h1,h2⟩,h3⟩:=hf1
  have hle:sz≤cs.length:=by rw [Nat.succ_mul] at hl; omega
  have hcells:(mkD ag (cs.take sz)).cells=cs.take sz:=by
   cases ag with
   | true=>rfl
   | false=>
    have hs1:sz=1:=by simpa using hsz
    subst hs1
    match cs,hle with
    | a :: cs,_=>
     show AV.cells a=[a]
     have ho:a.one=true:=by simpa [mkD,headA] using h2
     cases a <;> first | rfl | simp [AV.one] at ho
  obtain ⟨vs,k1,k2,k3,k4⟩:=hc.get
  have hA:RelC R w b o (cs.take sz):=RelC.make (k1.take sz) (fun v hv=>k2 v (List.mem_of_mem_take hv)) (fun j v hv=>k3 j v (by
   rw [List.getElem?_take] at hv
   split at hv
   ·exact hv
   ·cases hv)) (fun j hj=>k4 j (by rw [List.length_take] at hj; omega))
  exact .cons (by rw [hcells,List.length_take,Nat.min_eq_left hle]) h1 h3 (by rw [hcells]; exact hA) (relE_ep hsz n (hc.drop sz) (by rw [List.length_drop]; rw [Nat.succ_mul] at hl; omega) hf2)
theorem length_elemsT (ag:Bool) (sz:Nat):∀ (n:Nat) (cs:List AV),(elemsT ag sz n cs).length=n
 | 0,_=>rfl
 | n+1,cs=>by simp [elemsT,length_elemsT ag sz n]
theorem exec_slice (h:Rep E R w β s a) (t:TypeId) (x:Operand) (lo hi:Option Operand) (ho:o.op=.slice t x lo hi none) {l h':Option SV} (hl:optO E s.slots lo=some l) (hh:optO E s.slots hi=some h') {v:AV} (hv:sliceA E t (evO E s.slots x) l h' none=some (true,v)) :
  Done E R w β s a o (s.put o.dst (.v v)):=by
 have rx:=evO_rel h x
 have rl:=optO_rel h hl
 have rh:=optO_rel h hh
 unfold sliceA at hv
 split at hv
 ·rename_i i hi' hmx
  obtain ⟨info,u,e1,e2,e3,e4,e5,e6⟩:=ti_info E hi'
  split at hv
  ·-- a string
   rename_i bs hk hx
   rw [hx] at rx
   have rx':Rel R w (.str bs) (a.eval x):=rx
   generalize hxv:a.eval x=xv at rx'
   cases rx'
   rw [hk] at e5
   have:=tkOf_str e5
   subst this
   split at hv
   ·rename_i c p q hb
    injection hv with hv
    injection hv with h1 h2
    subst h1; subst h2
    obtain ⟨k1,k2,k3⟩:=run_bounds (E:=E) false (Nat.le_refl _) rl rh hb
    refine done_value h (c:=.string ⟨⟨subA p q bs⟩⟩) ?_ (Rel.str _)
    rw [← extract_bytes]
    simp only [execOp,ho,Instr.sliceAt,Sem.run_bind,run_underlying e2,Result.andThen_ok,Instr.slice,hxv,Option.map_none,Option.isSome_none,Bool.false_eq_true,if_false,size_bytes,k1,Sem.run_pure]
   ·cases hv
  ·-- a list
   rename_i elem esz ag by_ z k sz es hk hx
   rw [hx] at rx
   rw [hk] at e5
   obtain ⟨ie,ue,rfl,f1,f2,f3,f4,f5,f6⟩:=tkOf_sl e5
   split at hv
   ·rename_i hsz
    split at hv
    ·rename_i c p q hb
     injection hv with hv
     injection hv with h1 h2
     subst h1; subst h2
     have rx':Rel R w (.list k sz es) (a.eval x):=rx
     generalize hxv:a.eval x=xv at rx'
     cases rx' with
     | lnil=>
      obtain ⟨k1,k2,k3⟩:=run_bounds (E:=E) true (Nat.le_refl _) rl rh hb
      simp only [List.length_nil,Nat.le_zero_eq] at k3
      subst k3
      have:p=0:=by omega
      subst this
      refine done_value h (c:=.slice none 0 0) ?_ ?_
      ·simp only [execOp,ho,Instr.sliceAt,Sem.run_bind,run_underlying e2,Result.andThen_ok,Instr.slice,hxv,Option.map_none]
       simp only [List.length_nil] at k1
       simp [k1,run_sizeOf w f1]
      ·exact Rel.lnil
     | lopn=>
      obtain ⟨k1,k2,k3⟩:=run_bounds (E:=E) true (Nat.le_refl _) rl rh hb
      simp only [List.length_nil,Nat.le_zero_eq] at k3
      subst k3
      have:p=0:=by omega
      subst this
      refine done_value h (c:=.slice none 0 0) ?_ ?_
      ·simp only [execOp,ho,Instr.sliceAt,Sem.run_bind,run_underlying e2,Result.andThen_ok,Instr.slice,hxv,Option.map_none]
       simp only [List.length_nil] at k1
       simp [k1,run_sizeOf w f1]
      ·exact Rel.lopn
     | @lemp _ ad=>
      obtain ⟨k1,k2,k3⟩:=run_bounds (E:=E) true (Nat.le_refl _) rl rh hb
      simp only [List.length_nil,Nat.le_zero_eq] at k3
      subst k3
      have:p=0:=by omega
      subst this
      refine done_value h (c:=.slice (some ad) 0 0) ?_ ?_
      ·simp only [execOp,ho,Instr.sliceAt,Sem.run_bind,run_underlying e2,Result.andThen_ok,Instr.slice,hxv,Option.map_none]
       simp only [List.length_nil] at k1
       simp [k1,run_sizeOf w f1]
      ·exact Rel.lemp
     | lown h0 h00=>
      obtain ⟨k1,k2,k3⟩:=run_bounds (E:=E) true (Nat.le_refl _) rl rh hb
      simp only [List.length_nil,Nat.le_zero_eq] at k3
      subst k3
      have:p=0:=by omega
      subst this
      refine done_value h (c:=.slice none 0 0) ?_ ?_
      ·simp only [execOp,ho,Instr.sliceAt,Sem.run_bind,run_underlying e2,Result.andThen_ok,Instr.slice,hxv,Option.map_none]
       simp only [List.length_nil] at k1
       simp [k1,run_sizeOf w f1]
      ·exact Rel.lopn
     | lfam h0 h00=>
      obtain ⟨k1,k2,k3⟩:=run_bounds (E:=E) true (Nat.le_refl _) rl rh hb
      simp only [List.length_nil,Nat.le_zero_eq] at k3
      subst k3
      have:p=0:=by omega
      subst this
      refine done_value h (c:=.slice none 0 0) ?_ ?_
      ·simp only [execOp,ho,Instr.sliceAt,Sem.run_bind,run_underlying e2,Result.andThen_ok,Instr.slice,hxv,Option.map_none]
       simp only [List.length_nil] at k1
       simp [k1,run_sizeOf w f1]
      ·exact Rel.lopn
     | @list _ _ _ b o' len cap hr hlen hcap hkk=>
      subst hlen
      obtain ⟨k1,k2,k3⟩:=run_bounds (E:=E) true hcap rl rh hb
      have hszeq:es≠[]→sz=esz:=fun hne=>by
       simp only [Bool.or_eq_true] at hsz
       rcases hsz with hc | hc
       ·exact Nat.eq_of_beq_eq_true hc
       ·simp at hc; exact absurd hc hne
      have hrun:(execOp a.eval o).run E.P w=.ok (.value (.slice (if cap=p then some ⟨b,o',none⟩ else some ⟨b,o'+p * esz,none⟩) (q - p) (cap - p))) w:=by
       simp only [execOp,ho,Instr.sliceAt,Sem.run_bind,run_underlying e2,Result.andThen_ok,Instr.slice,hxv,Option.map_none,k1,run_sizeOf w f1,f2,Sem.run_pure,Option.map_some,addr_add]
      have hlk:∀ b2 o2,LkOk R (match k with | .nil=>LK.nil | .full=>(match h' with | none=>LK.full | some _=>LK.opn) | _=>LK.opn) b2 o2 (q - p) (cap - p):=by
       intro b2 o2
       cases k with
       | nil=>exact hkk.elim
       | opn=>trivial
       | own id=>trivial
       | fam id j=>trivial
       | full=>
        have hc:cap=es.length:=hkk
        cases h' with
        | some _=>trivial
        | none=>
         have hq:q=es.length:=by
          unfold lohi at hb
          simp only at hb
          split at hb
          ·cases hb
          ·injection hb with hb
           injection hb with _ hb
           injection hb with _ hb
           exact hb.symm
         show cap - p=q - p
         omega
      by_cases hcp:cap=p
      ·refine done_value h (c:=.slice (some ⟨b,o',none⟩) (q - p) (cap - p)) (by rw [hrun,if_pos hcp]) ?_
       have he:subA p q es=[]:=List.eq_nil_of_length_eq_zero (by rw [subA_length k3]; omega)
       exact Rel.list (by rw [he]; exact .nil) (by rw [subA_length k3]) (by omega) (hlk _ _)
      ·refine done_value h (c:=.slice (some ⟨b,o'+p * esz,none⟩) (q - p) (cap - p)) (by rw [hrun,if_neg hcp]) ?_
       refine Rel.list ?_ (by rw [subA_length k3]) (by omega) (hlk _ _)
       by_cases hne:es=[]
       ·subst hne
        simp [subA]
        exact .nil
       ·have:=hszeq hne
        subst this
        exact relE_drop p (relE_take q hr)
    ·cases hv
   ·cases hv
  ·-- a heap slice
   rename_i elem esz ag by_ z id off sz len cap hk hx
   rw [hx] at rx
   rw [hk] at e5
   obtain ⟨ie,ue,rfl,f1,f2,f3,f4,f5,f6⟩:=tkOf_sl e5
   split at hv
   ·rename_i hsz
    have hsz:=Nat.eq_of_beq_eq_true hsz
    subst hsz
    split at hv
    ·rename_i c p q hb
     injection hv with hv
     injection hv with h1 h2
     subst h1; subst h2
     have rx':Rel R w (.msl id off sz len cap) (a.eval x):=rx
     generalize hxv:a.eval x=xv at rx'
     cases rx' with
     | @msl _ _ _ _ _ b hbk hcap=>
      obtain ⟨k1,k2,k3⟩:=run_bounds (E:=E) true hcap rl rh hb
      refine done_value h (c:=.slice (some ⟨b,bif Nat.beq cap p then off else off+p * sz,none⟩) (q - p) (cap - p)) ?_ (Rel.msl hbk (by omega))
      have hb:(bif Nat.beq cap p then off else off+p * sz)=if cap=p then off else off+p * sz:=by
       by_cases e:cap=p
       ·rw [if_pos e,e,show Nat.beq p p=true from Nat.beq_refl p]; rfl
       ·rw [if_neg e]
        cases hq:Nat.beq cap p with
        | true=>exact absurd (Nat.eq_of_beq_eq_true hq) e
        | false=>rfl
      rw [hb]
      simp only [execOp,ho,Instr.sliceAt,Sem.run_bind,run_underlying e2,Result.andThen_ok,Instr.slice,hxv,Option.map_none,k1,run_sizeOf w f1,f2,Sem.run_pure,Option.map_some,addr_add]
      split <;> rfl
    ·cases hv
   ·cases hv
  ·-- a slice that grows
   rename_i elem esz ag by_ z id f' off sz len hk hx
   rw [hx] at rx
   rw [hk] at e5
   obtain ⟨ie,ue,rfl,f1,f2,f3,f4,f5,f6⟩:=tkOf_sl e5
   split at hv
   ·rename_i hsz
    have hsz:=Nat.eq_of_beq_eq_true hsz
    subst hsz
    split at hv
    ·rename_i c p q hb
     injection hv with hv
     injection hv with h1 h2
     subst h1; subst h2
     have rx':Rel R w (.gsl id f' off sz len) (a.eval x):=rx
     generalize hxv:a.eval x=xv at rx'
     cases rx' with
     | gnil h0 h00=>
      obtain ⟨k1,k2,k3⟩:=run_bounds (E:=E) true (Nat.le_refl _) rl rh hb
      simp only [Nat.le_zero_eq] at k3
      subst k3
      have:p=0:=by omega
      subst this
      refine done_value h (c:=.slice none 0 0) ?_ ?_
      ·simp only [execOp,ho,Instr.sliceAt,Sem.run_bind,run_underlying e2,Result.andThen_ok,Instr.slice,hxv,Option.map_none]
       simp [k1,run_sizeOf w f1]
      ·exact Rel.gnil h0 h00
     | @gsl _ _ _ _ _ cap b o' ro hro hok hcap=>
      obtain ⟨k1,k2,k3⟩:=run_bounds (E:=E) true hcap rl rh hb
      have hrun:(execOp a.eval o).run E.P w=.ok (.value (.slice (if cap=p then some ⟨b,o',none⟩ else some ⟨b,o'+p * sz,none⟩) (q - p) (cap - p))) w:=by
       simp only [execOp,ho,Instr.sliceAt,Sem.run_bind,run_underlying e2,Result.andThen_ok,Instr.slice,hxv,Option.map_none,k1,run_sizeOf w f1,f2,Sem.run_pure,Option.map_some,addr_add]
      have hgs:∀ o2,(o2=o'+p * sz∨cap=p)→GsOk b o2 f' (off+p) sz (cap - p) ro:=fun o2 h2=>by
       cases ro with
       | none=>trivial
       | nil0=>exact hok.elim
       | blk _=>exact hok.elim
       | fam _=>exact hok.elim
       | tok f1 b1 c1=>
        refine ⟨hok.1,fun e=>?_⟩
        obtain ⟨q1,q2,q3⟩:=hok.2 e
        refine ⟨q1,by omega,?_⟩
        rcases h2 with h2 | h2
        ·rcases q3 with q3 | q3
         ·exact .inl (by rw [h2,q3,Nat.add_mul])
         ·exact .inr (by omega)
        ·exact .inr (by omega)
      by_cases hcp:cap=p
      ·exact done_value h (c:=.slice (some ⟨b,o',none⟩) (q - p) (cap - p)) (by rw [hrun,if_pos hcp]) (Rel.gsl hro (hgs _ (.inr hcp)) (by omega))
      ·exact done_value h (c:=.slice (some ⟨b,o'+p * sz,none⟩) (q - p) (cap - p)) (by rw [hrun,if_neg hcp]) (Rel.gsl hro (hgs _ (.inl rfl)) (by omega))
    ·cases hv
   ·cases hv
  ·-- an array that never changes again
   rename_i len esz ag cs hk hx
   rw [hx] at rx
   rw [hk] at e5
   obtain ⟨e,ie,ue,rfl,f1,f2,f3,f4⟩:=tkOf_arr e5
   split at hv
   ·split at hv
    ·rename_i hcnd
     simp only [Bool.and_eq_true] at hcnd
     obtain ⟨⟨⟨c1,c2⟩,c3⟩,c4⟩:=hcnd
     injection hv with hv
     injection hv with _ h2
     subst h2
     have rx':Rel R w (.ep cs) (a.eval x):=rx
     generalize hxv:a.eval x=xv at rx'
     cases rx' with
     | @ep _ b o' hr=>
     obtain ⟨k1,_,_⟩:=run_bounds (E:=E) (w:=w) (R:=R) (β:=β) (l:=0) (h:=len) false (Nat.le_refl len) rl rh rfl
     refine done_value h (c:=.slice (some ⟨b,o',none⟩) len len) ?_ (Rel.list (relE_ep c3 len hr (Nat.le_of_ble_eq_true c1) c4) (length_elemsT _ _ _ _).symm (Nat.le_refl _) rfl)
     simp only [execOp,ho,Instr.sliceAt,Sem.run_bind,run_underlying e2,Result.andThen_ok,hxv,Instr.sureAddr,Option.map_none,k1,run_sizeOf w f1,f2,Sem.run_pure]
     by_cases hl0:len=0
     ·subst hl0
      simp
     ·simp [hl0,addr_add]
    ·cases hv
   ·cases hv
  ·cases hv
 ·cases hv
theorem exec_makeMap (h:Rep E R w β s a) (t:TypeId) (ho:o.op=.makeMap t none):Done E R w β s a o ((s.addG (.map [])).put o.dst (.v (.map s.G.length))):=by
 have hgo:RepO (R.add (.blk w.heap.size)) (w.alloc (.map #[] 0)) (.map []) (.blk w.heap.size):=⟨#[],0,heap_alloc_new w _,trivial,rfl,fun i e he=>by simp at he⟩
 refine ⟨_,.map (some w.heap.size),w.alloc (.map #[] 0),R.add (.blk w.heap.size),β,?_,.inl rfl,(h.addObj (.map #[] 0) (.map []) (.blk w.heap.size) (by exact fun _ h=>h) hgo).put o.dst (x:=.v (.map s.G.length)) (Rel.map (nth_new h _)),by rw [boxes_put]; exact step_addObj h _ _ (by exact fun _ h=>h)⟩
 simp only [execOp,ho,Instr.makeMap,Option.map_none,Sem.run_bind,run_newObj,Result.andThen_ok,Sem.run_pure]
 rfl
theorem makeSlice_run (h:Rep E R w β s a) (t:TypeId) (x y:Operand) (ho:o.op=.makeSlice t x y) {i:TI} (hi:E.ti t=some i) {k k':IntKind} {n m:Int} (hx:evO E s.slots x=.v (.int k n)) (hy:evO E s.slots y=.v (.int k' m))
  {elem esz by_:Nat} {ag:Bool} {z:AV} (hk:i.k=.sl elem esz ag by_ (some z)) (hz:z.cells.length=esz) (hz1:1≤esz) (hzn:z.notTup=true) (hc:0≤n∧n≤m∧m≤140737488355328∧m * by_≤140737488355328) :
  ∃ us,RelL R w (cellsL (List.replicate m.toNat z)) us∧(∀ v∈us,v.oneCell'=true)∧(execOp a.eval o).run E.P w=.ok (.value (.slice (some ⟨w.heap.size,0,none⟩) n.toNat m.toNat)) (w.alloc (.cells ⟨us⟩ elem)):=by
 have rx:=evO_rel h x
 have ry:=evO_rel h y
 rw [hx] at rx
 rw [hy] at ry
 have rx':Rel R w (.int k n) (a.eval x):=rx
 have ry':Rel R w (.int k' m) (a.eval y):=ry
 generalize hxv:a.eval x=xv at rx'
 generalize hyv:a.eval y=yv at ry'
 cases rx'
 cases ry'
 obtain ⟨c1,c2,c3,c4⟩:=hc
 obtain ⟨info,u,e1,e2,e3,e4,e5,e6⟩:=ti_info E hi
 rw [hk] at e5
 obtain ⟨ie,ue,rfl,f1,f2,f3,f4,f5,f6⟩:=tkOf_sl e5
 obtain ⟨zc,hzc,hzr⟩:=constOf_some f6
 have hzR:=hzr R w
 obtain ⟨d1,d2⟩:=Rel.cells hzR hzn
 have hcs:zc.cells.size=esz:=by rw [← hz,d1.length]; simp
 obtain ⟨z1,z2⟩:=rel_zeros hzR hzn m.toNat
 have hrow:((Array.range (m.toNat * esz)).map fun i=>zc.cells[i % zc.cells.size]!)=⟨(List.replicate m.toNat zc.cells.toList).flatten⟩:=by
  apply Array.ext'
  rw [← hcs]
  exact zero_row zc.cells m.toNat
 have wn:IntKind.i64.wrap n=n:=IntWalk.i64_in n (by omega)
 have wm:IntKind.i64.wrap m=m:=IntWalk.i64_in m (by omega)
 have hrun:(Instr.makeSlice t (.int k n) (.int k' m)).run E.P w=.ok (.slice (some ⟨w.heap.size,0,none⟩) n.toNat m.toNat) (w.alloc (.cells ⟨(List.replicate m.toNat zc.cells.toList).flatten⟩ elem)):=by
  have hby:(ie.bytes:Int) * m≤281474976710656:=by rw [f3,Int.mul_comm]; omega
  have hby':¬ 281474976710656 < (ie.bytes:Int) * m:=by omega
  have h1:¬ m < 0:=by omega
  have h2:¬ n < 0:=by omega
  have h3:¬ m < n:=by omega
  have hti:(typeInfo elem).run E.P w=.ok ie w:=by simp [typeInfo,f1]
  by_cases h0:m.toNat * esz=0
  ·have hm0:m.toNat=0:=by
    rcases Nat.mul_eq_zero.1 h0 with h0 | h0 <;> omega
   have hmap0:∀ f:Nat→Value,Array.map f (Array.range 0)=#[]:=fun f=>by simp
   simp [Instr.makeSlice,run_underlying e2,asInt,asIntOf,hti,wn,wm,h1,h2,h3,hby',run_sizeOf w f1,f2,hm0,newRow]
   rw [hmap0]
  ·simp [Instr.makeSlice,run_underlying e2,asInt,asIntOf,hti,wn,wm,h1,h2,h3,hby',run_sizeOf w f1,f2,h0,run_zeroValue w f1 hzc,newRow]
   rw [← hrow]
 refine ⟨_,z1,z2,?_⟩
 simp only [execOp,ho,hxv,hyv,Sem.run_bind,hrun,Result.andThen_ok,Sem.run_pure]
theorem exec_makeSlice (h:Rep E R w β s a) (t:TypeId) (x y:Operand) (ho:o.op=.makeSlice t x y) {i:TI} (hi:E.ti t=some i) {k k':IntKind} {n m:Int} (hx:evO E s.slots x=.v (.int k n)) (hy:evO E s.slots y=.v (.int k' m))
  {elem esz by_:Nat} {ag:Bool} {z:AV} (hk:i.k=.sl elem esz ag by_ (some z)) (hz:z.cells.length=esz) (hz1:1≤esz) (hzn:z.notTup=true) (hc:0≤n∧n≤m∧m≤140737488355328∧m * by_≤140737488355328) :
  Done E R w β s a o ((s.addG (.row (cellsL (List.replicate m.toNat z)) elem)).put o.dst (.v (.msl s.G.length 0 esz n.toNat m.toNat))):=by
 obtain ⟨us,z1,z2,hrun⟩:=makeSlice_run h t x y ho hi hx hy hk hz hz1 hzn hc
 have e:=ext_add (R:=R) (w:=w) h.g.wf (.cells ⟨us⟩ elem) (.blk w.heap.size)
 have hgo:RepO (R.add (.blk w.heap.size)) (w.alloc (.cells ⟨us⟩ elem)) (.row (cellsL (List.replicate m.toNat z)) elem) (.blk w.heap.size):=
  ⟨_,heap_alloc_new w _,z1.mono e,z2,fun o' hi=>by have:=h.g.wf _ _ hi; omega⟩
 exact ⟨_,.slice (some ⟨w.heap.size,0,none⟩) n.toNat m.toNat,_,R.add (.blk w.heap.size),β,hrun,.inl rfl,(h.addObj _ _ (.blk w.heap.size) (by exact fun _ h=>h) hgo).put o.dst (x:=.v (.msl s.G.length 0 esz n.toNat m.toNat)) (Rel.msl (nth_new h _) (by omega)),by rw [boxes_put]; exact step_addObj h _ _ (by exact fun _ h=>h)⟩
end ops
end Go.Am
namespace Go.Am
open Go
section ops
variable {E:Env} {R:Realm} {w:World} {β:Nat→Nat} {s:St} {a:Act} {o:Oper}
theorem array_map_eval (x:Array Operand) (f:Operand→Value):x.map f=⟨x.toList.map f⟩:=Array.ext' (by simp)
theorem exec_builtin {b:Builtin} {args:Array Operand} {tys:Array TypeId} (ho:o.op=.call { callee:=.builtin b,args:=args,argTypes:=tys }) (vs:List Value) (hv:args.toList.map a.eval=vs) :
  (execOp a.eval o).run E.P w=(builtin b tys o.type (args.map fun | .const _=>true | _=>false) ⟨vs⟩).run E.P w:=by
 simp only [execOp,ho,resolve,Sem.run_bind,Sem.run_pure,Result.andThen_ok,invoke,array_map_eval args a.eval,hv]
 rfl
theorem RelM.length:∀ {l:List (AV × AV)} {es:List MapEntry},RelM R w l es→l.length=es.length
 | [],[],_=>rfl
 | _ :: _,_ :: _,h=>by simp [RelM.length h.2.2]
 | [],_ :: _,h=>h.elim
 | _ :: _,[],h=>h.elim
theorem exec_len (h:Rep E R w β s a) {args:Array Operand} {tys:List TypeId} (ho:o.op=.call { callee:=.builtin .len,args:=args,argTypes:=⟨tys⟩ }) {l:List AV} (hl:evL E s.slots args.toList=some l) {s':St} (hs:builtinA E s o.dst .len l tys=some (true,s')) :
  Done E R w β s a o s':=by
 have hr:=evL_rel h hl
 generalize hv:args.toList.map a.eval=vs at hr
 have hx:=exec_builtin (E:=E) (w:=w) ho vs hv
 unfold builtinA at hs
 split at hs <;> first | (rename_i h1; cases h1; done) | skip
 ·rename_i x
  cases hr with
  | cons h0 h1=>
  cases h1
  split at hs
  ·rename_i t tl
   split at hs
   ·rename_i i hi
    obtain ⟨info,u,e1,e2,e3,e4,e5,e6⟩:=ti_info E hi
    split at hs
    ·rename_i bs hk
     cases hs
     cases h0
     rw [hk] at e5
     have:=tkOf_str e5
     subst this
     refine done_value h (c:=.int .i64 bs.length) ?_ (Rel.int _ _)
     rw [hx]
     simp [builtin,Builtin.len_,run_underlying e2,goInt,size_bytes]
    ·rename_i kk sz es hk
     cases hs
     rw [hk] at e5
     obtain ⟨ie,ue,rfl,_⟩:=tkOf_sl e5
     refine done_value h (c:=.int .i64 es.length) ?_ (Rel.int _ _)
     rw [hx]
     cases h0 with
     | lnil=>simp [builtin,Builtin.len_,run_underlying e2,goInt]
     | lopn=>simp [builtin,Builtin.len_,run_underlying e2,goInt]
     | lemp=>simp [builtin,Builtin.len_,run_underlying e2,goInt]
     | lown=>simp [builtin,Builtin.len_,run_underlying e2,goInt]
     | lfam=>simp [builtin,Builtin.len_,run_underlying e2,goInt]
     | list _ hlen _ _=>subst hlen; simp [builtin,Builtin.len_,run_underlying e2,goInt]
    ·rename_i id off sz len cap hk
     cases hs
     rw [hk] at e5
     obtain ⟨ie,ue,rfl,_⟩:=tkOf_sl e5
     refine done_value h (c:=.int .i64 len) ?_ (Rel.int _ _)
     rw [hx]
     cases h0
     simp [builtin,Builtin.len_,run_underlying e2,goInt]
    ·rename_i id f' off sz len hk
     cases hs
     rw [hk] at e5
     obtain ⟨ie,ue,rfl,_⟩:=tkOf_sl e5
     refine done_value h (c:=.int .i64 len) ?_ (Rel.int _ _)
     rw [hx]
     cases h0 <;> simp [builtin,Builtin.len_,run_underlying e2,goInt]
    ·rename_i n esz ag hk
     cases hs
     rw [hk] at e5
     obtain ⟨e,ie,ue,rfl,_⟩:=tkOf_arr e5
     refine done_value h (c:=.int .i64 n) ?_ (Rel.int _ _)
     rw [hx]
     simp [builtin,Builtin.len_,run_underlying e2,goInt]
    ·rename_i hk
     cases hs
     rw [hk] at e5
     obtain ⟨rfl,_⟩:=tkOf_map e5
     refine done_value h (c:=.int .i64 0) ?_ (Rel.int _ _)
     rw [hx]
     cases h0
     simp [builtin,Builtin.len_,run_underlying e2,goInt]
    ·rename_i id hk
     split at hs
     ·rename_i es hg
      cases hs
      rw [hk] at e5
      obtain ⟨rfl,_⟩:=tkOf_map e5
      cases h0 with
      | @map _ b hb=>
      obtain ⟨ents,clock,g1,g2,g3⟩:=h.g.obj id _ _ hg hb
      refine done_value h (c:=.int .i64 es.length) ?_ (Rel.int _ _)
      rw [hx]
      have hgo:(getObj b).run E.P w=.ok (.map ents clock) w:=by simp [getObj,Sem.run,g1]
      simp [builtin,Builtin.len_,run_underlying e2,goInt,hgo,g2.length]
     ·cases hs
    ·cases hs
   ·cases hs
  ·cases hs
 ·cases hs
theorem max_run {b:Bool}:∀ {l:List AV} {x v:AV} {c:Value} {cs:List Value},Rel R w x c→RelL R w l cs→maxA x l=some v→∃ c',(cs.foldlM Builtin.max2 c).run E.P w=.ok c' w∧Rel R w v c'
 | [],x,v,c,cs,hr,hl,hv=>by
  cases hl
  simp only [maxA] at hv
  cases hv
  exact ⟨c,rfl,hr⟩
 | y :: l,x,v,c,cs,hr,hl,hv=>by
  cases hl with
  | cons hy hl=>
  unfold maxA at hv
  split at hv
  ·rename_i heq; cases heq
  ·rename_i k n k' m l' heq
   cases heq
   split at hv
   ·rename_i hk
    subst hk
    cases hr
    cases hy
    obtain ⟨c',h1,h2⟩:=max_run (b:=b) (Rel.int k (if m > n then m else n)) hl hv
    refine ⟨c',?_,h2⟩
    simp only [List.foldlM_cons,Sem.run_bind,Builtin.max2,Sem.run_pure,Result.andThen_ok]
    exact h1
   ·cases hv
  ·cases hv
theorem min_run {b:Bool}:∀ {l:List AV} {x v:AV} {c:Value} {cs:List Value},Rel R w x c→RelL R w l cs→minA x l=some v→∃ c',(cs.foldlM Builtin.min2 c).run E.P w=.ok c' w∧Rel R w v c'
 | [],x,v,c,cs,hr,hl,hv=>by
  cases hl
  simp only [minA] at hv
  cases hv
  exact ⟨c,rfl,hr⟩
 | y :: l,x,v,c,cs,hr,hl,hv=>by
  cases hl with
  | cons hy hl=>
  unfold minA at hv
  split at hv
  ·rename_i heq; cases heq
  ·rename_i k n k' m l' heq
   cases heq
   split at hv
   ·rename_i hk
    subst hk
    cases hr
    cases hy
    obtain ⟨c',h1,h2⟩:=min_run (b:=b) (Rel.int k (if m < n then m else n)) hl hv
    refine ⟨c',?_,h2⟩
    simp only [List.foldlM_cons,Sem.run_bind,Builtin.min2,Sem.run_pure,Result.andThen_ok]
    exact h1
   ·cases hv
  ·rename_i n m l' heq
   cases heq
   cases hr
   cases hy
   obtain ⟨c',h1,h2⟩:=min_run (b:=b) (Rel.str (bif Op.bytesLess n m || n == m then n else m)) hl hv
   refine ⟨c',?_,h2⟩
   have e:(Builtin.min2 (.string ⟨⟨n⟩⟩) (.string ⟨⟨m⟩⟩)).run E.P w=.ok (.string ⟨⟨bif Op.bytesLess n m || n == m then n else m⟩⟩) w:=by
    simp only [Builtin.min2,Op.stringOp,Sem.run_bind,Sem.run_pure,Result.andThen_ok]
    show Result.andThen ((asBool _).run E.P w) _=_
    cases hb:(Op.bytesLess n m || n == m) <;> simp_all [asBool]
   simp only [List.foldlM_cons,Sem.run_bind,e,Result.andThen_ok]
   exact h1
  ·cases hv
theorem exec_max (h:Rep E R w β s a) {args:Array Operand} {tys:Array TypeId} (ho:o.op=.call { callee:=.builtin .max,args:=args,argTypes:=tys }) {x v:AV} {l:List AV} (hl:evL E s.slots args.toList=some (x :: l)) (hm:maxA x l=some v) :
  Done E R w β s a o (s.put o.dst (.v v)):=by
 have hr:=evL_rel h hl
 generalize hv:args.toList.map a.eval=vs at hr
 have hx:=exec_builtin (E:=E) (w:=w) ho vs hv
 cases hr with
 | cons h0 h1=>
 obtain ⟨c',k1,k2⟩:=max_run (E:=E) (b:=true) h0 h1 hm
 refine done_value h (c:=c') ?_ k2
 rw [hx]
 simp [builtin,Builtin.max_,k1]
theorem exec_min (h:Rep E R w β s a) {args:Array Operand} {tys:Array TypeId} (ho:o.op=.call { callee:=.builtin .min,args:=args,argTypes:=tys }) {x v:AV} {l:List AV} (hl:evL E s.slots args.toList=some (x :: l)) (hm:minA x l=some v) :
  Done E R w β s a o (s.put o.dst (.v v)):=by
 have hr:=evL_rel h hl
 generalize hv:args.toList.map a.eval=vs at hr
 have hx:=exec_builtin (E:=E) (w:=w) ho vs hv
 cases hr with
 | cons h0 h1=>
 obtain ⟨c',k1,k2⟩:=min_run (E:=E) (b:=true) h0 h1 hm
 refine done_value h (c:=c') ?_ k2
 rw [hx]
 simp [builtin,Builtin.min_,k1]
end ops
end Go.Am
namespace Go.Am
open Go
section ops
variable {E:Env} {R:Realm} {w:World} {β:Nat→Nat} {s:St} {a:Act} {o:Oper}
def Realm.upto (R:Realm) (g n:Nat) (obj:List RO):Realm:=⟨fun b o=>R.I b o∨(b=g∧o < n),obj⟩
theorem setN_inj_ro {l:List RO} {id i:Nat} {x r y:RO} (_hid:nth l id=some y) (h:nth (setN l id x) i=some r):(i=id∧r=x)∨(i≠id∧nth l i=some r):=by
 rcases nth_setN h with ⟨rfl,rfl,_⟩ | ⟨hne,h⟩
 ·exact .inl ⟨rfl,rfl⟩
 ·exact .inr ⟨Ne.symm hne,h⟩
theorem ext_tokAdd (wf:∀ b o,R.I b o→b < w.heap.size) (x:Obj) (n:Nat) (ro:RO):Ext R w (R.upto w.heap.size n (R.obj++[ro])) (w.drew.alloc x):=
 ⟨fun _ _ h=>.inl h,fun b o h=>cell_of_block (heap_alloc_old w.drew x b (wf b o h)) o,fun _ r h=>⟨r,nth_append_old h,RoLe.refl r⟩,.old fun b hb=>heap_alloc_old w.drew x b hb⟩
theorem ext_tokSet (wf:∀ b o,R.I b o→b < w.heap.size) (x:Obj) {n id m:Nat} {r0:RO} (hid:nth R.obj id=some r0) (b' c':Nat) (hlt:RoLe r0 (.tok m b' c')):Ext R w (R.upto w.heap.size n (setN R.obj id (.tok m b' c'))) (w.drew.alloc x):=
 ⟨fun _ _ h=>.inl h,fun b o h=>cell_of_block (heap_alloc_old w.drew x b (wf b o h)) o,fun i r h=>by
  by_cases e:id=i
  ·subst e
   rw [hid] at h
   cases h
   exact ⟨_,nth_setN_self hid,hlt⟩
  ·exact ⟨r,by rw [Realm.upto,nth_setN_ne e]; exact h,RoLe.refl r⟩,.old fun b hb=>heap_alloc_old w.drew x b hb⟩
theorem Rep.tokAdd (h:Rep E R w β s a) {cur:Array Value} {elem:TypeId} {n sz cap:Nat} (hn:n≤cap) (hm:cap≤maxLen) (hs:cur.size=cap * sz) :
  Rep E (R.upto w.heap.size (n * sz) (R.obj++[.tok n w.heap.size cap])) (w.drew.alloc (.cells cur elem)) β (s.addG (.tok n sz elem)) a ∧
  Step R w β s.boxes (R.upto w.heap.size (n * sz) (R.obj++[.tok n w.heap.size cap])) (w.drew.alloc (.cells cur elem)) β s.boxes:=by
 have e:=ext_tokAdd (R:=R) (w:=w) h.g.wf (.cells cur elem) (n * sz) (.tok n w.heap.size cap)
 have old:∀ b,b < w.heap.size→(w.drew.alloc (.cells cur elem)).heap[b]?=w.heap[b]?:=fun b hb=>heap_alloc_old w.drew _ b hb
 have new:(w.drew.alloc (.cells cur elem)).heap[w.heap.size]?=some (.cells cur elem (0,0)):=heap_alloc_new w.drew _
 have hI:∀ b o,b < w.heap.size→(R.upto w.heap.size (n * sz) (R.obj++[.tok n w.heap.size cap])).I b o→R.I b o:=fun b o hb hi=>by
  rcases hi with hi | ⟨hi,_⟩
  ·exact hi
  ·omega
 refine ⟨⟨⟨by simp [St.addG,Realm.upto,h.g.len],fun id g r h1 h2=>?_,fun i j ri rj b h1 h2 b1 b2=>?_,fun b o hi=>?_,fun g cs hg=>(h.g.glob g cs hg).mono e,by first | exact h.g.lo | exact Nat.le_succ_of_le h.g.lo⟩,?_,h.t.mono e,h.n,h.d.mono e⟩,?_⟩
 ·rcases nth_append_inv h2 with h2 | ⟨h3,rfl⟩
  ·have hlt:=nth_lt h2
   rw [h.g.len] at hlt
   rcases nth_append_inv h1 with h1 | ⟨h4,_⟩
   ·exact (h.g.obj id g r h1 h2).mono e (fun b hb=>old b (h.g.live_lt ⟨id,r,h2,hb⟩)) (fun b o hb=>hI b o (h.g.live_lt ⟨id,r,h2,hb⟩))
   ·omega
  ·rcases nth_append_inv h1 with h1 | ⟨h4,rfl⟩
   ·have:=nth_lt h1
    rw [h3,h.g.len] at this
    omega
   ·refine ⟨rfl,cur,new,hn,hm,hs,fun o' ho' hi=>?_⟩
    rcases hi with hi | ⟨_,hi⟩
    ·have:=h.g.wf _ _ hi
     omega
    ·omega
 ·rcases nth_append_inv h1 with g1 | ⟨h3,e1⟩
  ·rcases nth_append_inv h2 with g2 | ⟨h4,e2⟩
   ·exact h.g.inj i j ri rj b g1 g2 b1 b2
   ·have:=h.g.live_lt ⟨i,ri,g1,b1⟩
    rw [e2] at b2
    simp [RO.has] at b2
    omega
  ·rcases nth_append_inv h2 with g2 | ⟨h4,e2⟩
   ·have:=h.g.live_lt ⟨j,rj,g2,b2⟩
    rw [e1] at b1
    simp [RO.has] at b1
    omega
   ·omega
 ·rcases hi with hi | ⟨rfl,_⟩
  ·have:=h.g.wf b o hi
   simp
   omega
  ·simp
 ·refine h.b.keep e (fun k cs hk=>old _ (h.own_lt (.inr ⟨k,cs,hk,rfl⟩))) (fun k cs o hk=>hI _ o (h.own_lt (.inr ⟨k,cs,hk,rfl⟩))) (fun k cs hk hl=>?_)
  rcases live_add (R:=R) (ro:=.tok n w.heap.size cap) hl with hl | hl
  ·exact hl
  ·have:=h.own_lt (.inr ⟨k,cs,hk,rfl⟩)
   simp [RO.has] at hl
   omega
 ·refine ⟨e,rfl,rfl,rfl,by simp,fun b hb _=>old b hb,fun b hb ho=>?_,fun b o hi hb _=>hI b o hb hi⟩
  rcases ho with ho | ho
  ·rcases live_add (R:=R) (ro:=.tok n w.heap.size cap) ho with ho | ho
   ·exact .inl ho
   ·simp [RO.has] at ho
    omega
  ·exact .inr ho
theorem ext_tokAdd0 (wf:∀ b o,R.I b o→b < w.heap.size) (x:Obj) (n:Nat) (ro:RO):Ext R w (R.upto w.heap.size n (R.obj++[ro])) (w.alloc x):=
 ⟨fun _ _ h=>.inl h,fun b o h=>cell_of_block (heap_alloc_old w x b (wf b o h)) o,fun _ r h=>⟨r,nth_append_old h,RoLe.refl r⟩,.old fun b hb=>heap_alloc_old w x b hb⟩
theorem Rep.tokAdd0 (h:Rep E R w β s a) {cur:Array Value} {elem:TypeId} {n sz cap:Nat} (hn:n≤cap) (hm:cap≤maxLen) (hs:cur.size=cap * sz) :
  Rep E (R.upto w.heap.size (n * sz) (R.obj++[.tok n w.heap.size cap])) (w.alloc (.cells cur elem)) β (s.addG (.tok n sz elem)) a ∧
  Step R w β s.boxes (R.upto w.heap.size (n * sz) (R.obj++[.tok n w.heap.size cap])) (w.alloc (.cells cur elem)) β s.boxes:=by
 have e:=ext_tokAdd0 (R:=R) (w:=w) h.g.wf (.cells cur elem) (n * sz) (.tok n w.heap.size cap)
 have old:∀ b,b < w.heap.size→(w.alloc (.cells cur elem)).heap[b]?=w.heap[b]?:=fun b hb=>heap_alloc_old w _ b hb
 have new:(w.alloc (.cells cur elem)).heap[w.heap.size]?=some (.cells cur elem (0,0)):=heap_alloc_new w _
 have hI:∀ b o,b < w.heap.size→(R.upto w.heap.size (n * sz) (R.obj++[.tok n w.heap.size cap])).I b o→R.I b o:=fun b o hb hi=>by
  rcases hi with hi | ⟨hi,_⟩
  ·exact hi
  ·omega
 refine ⟨⟨⟨by simp [St.addG,Realm.upto,h.g.len],fun id g r h1 h2=>?_,fun i j ri rj b h1 h2 b1 b2=>?_,fun b o hi=>?_,fun g cs hg=>(h.g.glob g cs hg).mono e,by first | exact h.g.lo | exact Nat.le_succ_of_le h.g.lo⟩,?_,h.t.mono e,h.n,h.d.mono e⟩,?_⟩
 ·rcases nth_append_inv h2 with h2 | ⟨h3,rfl⟩
  ·have hlt:=nth_lt h2
   rw [h.g.len] at hlt
   rcases nth_append_inv h1 with h1 | ⟨h4,_⟩
   ·exact (h.g.obj id g r h1 h2).mono e (fun b hb=>old b (h.g.live_lt ⟨id,r,h2,hb⟩)) (fun b o hb=>hI b o (h.g.live_lt ⟨id,r,h2,hb⟩))
   ·omega
  ·rcases nth_append_inv h1 with h1 | ⟨h4,rfl⟩
   ·have:=nth_lt h1
    rw [h3,h.g.len] at this
    omega
   ·refine ⟨rfl,cur,new,hn,hm,hs,fun o' ho' hi=>?_⟩
    rcases hi with hi | ⟨_,hi⟩
    ·have:=h.g.wf _ _ hi
     omega
    ·omega
 ·rcases nth_append_inv h1 with g1 | ⟨h3,e1⟩
  ·rcases nth_append_inv h2 with g2 | ⟨h4,e2⟩
   ·exact h.g.inj i j ri rj b g1 g2 b1 b2
   ·have:=h.g.live_lt ⟨i,ri,g1,b1⟩
    rw [e2] at b2
    simp [RO.has] at b2
    omega
  ·rcases nth_append_inv h2 with g2 | ⟨h4,e2⟩
   ·have:=h.g.live_lt ⟨j,rj,g2,b2⟩
    rw [e1] at b1
    simp [RO.has] at b1
    omega
   ·omega
 ·rcases hi with hi | ⟨rfl,_⟩
  ·have:=h.g.wf b o hi
   simp
   omega
  ·simp
 ·refine h.b.keep e (fun k cs hk=>old _ (h.own_lt (.inr ⟨k,cs,hk,rfl⟩))) (fun k cs o hk=>hI _ o (h.own_lt (.inr ⟨k,cs,hk,rfl⟩))) (fun k cs hk hl=>?_)
  rcases live_add (R:=R) (ro:=.tok n w.heap.size cap) hl with hl | hl
  ·exact hl
  ·have:=h.own_lt (.inr ⟨k,cs,hk,rfl⟩)
   simp [RO.has] at hl
   omega
 ·refine ⟨e,rfl,rfl,rfl,by simp,fun b hb _=>old b hb,fun b hb ho=>?_,fun b o hi hb _=>hI b o hb hi⟩
  rcases ho with ho | ho
  ·rcases live_add (R:=R) (ro:=.tok n w.heap.size cap) ho with ho | ho
   ·exact .inl ho
   ·simp [RO.has] at ho
    omega
  ·exact .inr ho
theorem exec_buildSliceO (h:Rep E R w β s a) (t:TypeId) (len:Nat) (parts:Array (Nat × Operand)) (ho:o.op=.buildSlice t len parts) {k:LK} {esz:Nat} {es:List AV} (hv:buildSliceA E s t len parts.toList=some (.list k esz es)) {i:TI} (hi:E.ti t=some i) {elem sz' by_:Nat} {ag:Bool} {z:Option AV} (hk:i.k=.sl elem sz' ag by_ z) (hm:len≤65536) :
  Done E R w β s a o ((s.addG (.tok len esz elem)).put o.dst (.v (.list (.own s.G.length) esz es))):=by
 obtain ⟨es',esz',us,elem',hve,hrun,g2,hlen,u2,u3,i',ag',by',z',hi',hk'⟩:=buildSlice_run h t len parts ho hv
 cases hve
 rw [hi] at hi'
 cases hi'
 rw [hk] at hk'
 cases hk'
 have hus:us.length=len * esz:=by rw [← u2.length,length_cellsL g2,hlen]
 obtain ⟨r1,r2⟩:=h.tokAdd0 (cur:=⟨us⟩) (elem:=elem) (n:=len) (sz:=esz) (cap:=len) (Nat.le_refl _) (by simp [maxLen]; omega) (by simpa using hus)
 refine ⟨_,.slice (some ⟨w.heap.size,0,none⟩) len len,_,_,β,hrun,.inl rfl,r1.put o.dst (x:=.v (.list (.own s.G.length) esz es)) ?_,by rw [boxes_put]; exact r2⟩
 refine Rel.list (relE_make g2 (RelC.make (u2.mono r2.ext) u3 (fun j x hx=>?_) (fun j hj=>.inr ⟨rfl,?_⟩))) hlen.symm (Nat.le_refl _) ⟨.tok len w.heap.size len,nth_new h _,?_⟩
 ·rw [cell_row (heap_alloc_new w _)]
  simpa using hx
 ·rw [length_cellsL g2,hlen] at hj
  omega
 ·exact ⟨Nat.le_refl _,fun _=>⟨rfl,rfl,rfl⟩⟩
theorem Rep.tokSet (h:Rep E R w β s a) {cur:Array Value} {elem e0:TypeId} {n sz cap id f:Nat} {r0:RO} (hg:nth s.G id=some (.tok f sz e0)) (hid:nth R.obj id=some r0) (hf:∀ b c,RoLe r0 (.tok n b c)) (hn:n≤cap) (hm:cap≤maxLen) (hs:cur.size=cap * sz) :
  Rep E (R.upto w.heap.size (n * sz) (setN R.obj id (.tok n w.heap.size cap))) (w.drew.alloc (.cells cur elem)) β (s.inG (setN s.G id (.tok n sz elem))) a ∧
  Step R w β s.boxes (R.upto w.heap.size (n * sz) (setN R.obj id (.tok n w.heap.size cap))) (w.drew.alloc (.cells cur elem)) β s.boxes:=by
 have e:=ext_tokSet (R:=R) (w:=w) (n:=n * sz) h.g.wf (.cells cur elem) hid w.heap.size cap (hf _ _)
 have old:∀ b,b < w.heap.size→(w.drew.alloc (.cells cur elem)).heap[b]?=w.heap[b]?:=fun b hb=>heap_alloc_old w.drew _ b hb
 have new:(w.drew.alloc (.cells cur elem)).heap[w.heap.size]?=some (.cells cur elem (0,0)):=heap_alloc_new w.drew _
 have hI:∀ b o,b < w.heap.size→(R.upto w.heap.size (n * sz) (setN R.obj id (.tok n w.heap.size cap))).I b o→R.I b o:=fun b o hb hi=>by
  rcases hi with hi | ⟨hi,_⟩
  ·exact hi
  ·omega
 have live:∀ b,b < w.heap.size→Live (R.upto w.heap.size (n * sz) (setN R.obj id (.tok n w.heap.size cap))) b→Live R b:=fun b hb hl=>by
  obtain ⟨i,r,h1,h2⟩:=hl
  rcases setN_inj_ro hid h1 with ⟨_,rfl⟩ | ⟨_,h1⟩
  ·simp [RO.has] at h2
   omega
  ·exact ⟨i,r,h1,h2⟩
 refine ⟨⟨⟨by simp [St.inG,Realm.upto,h.g.len],fun i gg r h1 h2=>?_,fun i j ri rj b h1 h2 b1 b2=>?_,fun b o hi=>?_,fun g cs hg=>(h.g.glob g cs hg).mono e,by first | exact h.g.lo | exact Nat.le_succ_of_le h.g.lo⟩,?_,h.t.mono e,h.n,h.d.mono e⟩,?_⟩
 ·rcases setN_inj_ro hid h2 with ⟨rfl,rfl⟩ | ⟨hne,h2⟩
  ·simp only [St.inG] at h1
   rw [nth_setN_self hg] at h1
   cases h1
   refine ⟨rfl,cur,new,hn,hm,hs,fun o' ho' hi=>?_⟩
   rcases hi with hi | ⟨_,hi⟩
   ·have:=h.g.wf _ _ hi
    omega
   ·omega
  ·simp only [St.inG] at h1
   rw [nth_setN_ne (Ne.symm hne)] at h1
   exact (h.g.obj i gg r h1 h2).mono e (fun b hb=>old b (h.g.live_lt ⟨i,r,h2,hb⟩)) (fun b o hb=>hI b o (h.g.live_lt ⟨i,r,h2,hb⟩))
 ·rcases setN_inj_ro hid h1 with ⟨g3,e1⟩ | ⟨g3,g1⟩
  ·rcases setN_inj_ro hid h2 with ⟨g4,e2⟩ | ⟨g4,g2⟩
   ·omega
   ·have:=h.g.live_lt ⟨j,rj,g2,b2⟩
    rw [e1] at b1
    simp [RO.has] at b1
    omega
  ·rcases setN_inj_ro hid h2 with ⟨g4,e2⟩ | ⟨g4,g2⟩
   ·have:=h.g.live_lt ⟨i,ri,g1,b1⟩
    rw [e2] at b2
    simp [RO.has] at b2
    omega
   ·exact h.g.inj i j ri rj b g1 g2 b1 b2
 ·rcases hi with hi | ⟨rfl,_⟩
  ·have:=h.g.wf b o hi
   simp
   omega
  ·simp
 ·exact h.b.keep e (fun k cs hk=>old _ (h.own_lt (.inr ⟨k,cs,hk,rfl⟩))) (fun k cs o hk=>hI _ o (h.own_lt (.inr ⟨k,cs,hk,rfl⟩))) (fun k cs hk hl=>live _ (h.own_lt (.inr ⟨k,cs,hk,rfl⟩)) hl)
 ·refine ⟨e,rfl,rfl,rfl,by simp,fun b hb _=>old b hb,fun b hb ho=>?_,fun b o hi hb _=>hI b o hb hi⟩
  rcases ho with ho | ho
  ·exact .inl (live b hb ho)
  ·exact .inr ho
theorem Rep.tokRoom (h:Rep E R w β s a) {cur:Array Value} {news:List Value} {elem:TypeId} {n sz id f g c:Nat} (hg:nth s.G id=some (.tok f sz elem)) (hid:nth R.obj id=some (.tok f g c)) (hf:f < n) (hn:n≤c)
  (hcur:w.heap[g]?=some (.cells cur elem (0,0))) (hs:cur.size=c * sz) (hm:c≤maxLen) (hl:f * sz+news.length=n * sz) :
  Ext R w (R.upto g (n * sz) (setN R.obj id (.tok n g c))) (w.setRow g (cur.toList.take (f * sz)++news++cur.toList.drop (f * sz+news.length)).toArray) ∧
  Rep E (R.upto g (n * sz) (setN R.obj id (.tok n g c))) (w.setRow g (cur.toList.take (f * sz)++news++cur.toList.drop (f * sz+news.length)).toArray) β (s.inG (setN s.G id (.tok n sz elem))) a ∧
  Step R w β s.boxes (R.upto g (n * sz) (setN R.obj id (.tok n g c))) (w.setRow g (cur.toList.take (f * sz)++news++cur.toList.drop (f * sz+news.length)).toArray) β s.boxes:=by
 obtain ⟨_,cur',hcur',_,_,_,hfree⟩:=h.g.obj id _ _ hg hid
 rw [hcur] at hcur'
 cases hcur'
 have hle:n * sz≤c * sz:=Nat.mul_le_mul_right _ hn
 generalize hnew:(cur.toList.take (f * sz)++news++cur.toList.drop (f * sz+news.length)).toArray=cur2
 have old:∀ b,b≠g→(w.setRow g cur2).heap[b]?=w.heap[b]?:=fun b hb=>setRow_other w g b cur2 hb
 have new:(w.setRow g cur2).heap[g]?=some (.cells cur2 elem (0,0)):=setRow_heap w g cur cur2 elem (0,0) hcur
 have hlen:f * sz≤cur.toList.length:=by simp; omega
 have hsz:cur2.size=c * sz:=by
  rw [← hnew]
  simp
  omega
 have hgl:Live R g:=⟨id,_,hid,rfl⟩
 have e:Ext R w (R.upto g (n * sz) (setN R.obj id (.tok n g c))) (w.setRow g cur2):=by
  refine ⟨fun _ _ hi=>.inl hi,fun b o hi=>?_,fun i r hr=>?_,fun b r hb=>⟨r,(old b fun e=>by subst e; rw [hcur] at hb; cases hb).trans hb,rfl,rfl,rfl,rfl,rfl⟩⟩
  ·by_cases hb:b=g
   ·subst hb
    have ho:o < f * sz:=Nat.lt_of_not_le fun hle=>hfree o hle hi
    simp only [World.cell?,new,hcur]
    have:cur2[o]?=cur[o]?:=by
     rw [← hnew,List.append_assoc]
     simp only [List.getElem?_toArray]
     rw [List.getElem?_append_left (by simp; omega),List.getElem?_take,if_pos ho,Array.getElem?_toList]
    simp [this]
   ·exact cell_of_block (old b hb) o
  ·by_cases ei:id=i
   ·subst ei
    rw [hid] at hr
    cases hr
    exact ⟨_,nth_setN_self hid,by omega,fun e=>by omega⟩
   ·exact ⟨r,by rw [Realm.upto,nth_setN_ne ei]; exact hr,RoLe.refl r⟩
 have hI:∀ b o,b≠g→(R.upto g (n * sz) (setN R.obj id (.tok n g c))).I b o→R.I b o:=fun b o hb hi=>by
  rcases hi with hi | ⟨hi,_⟩
  ·exact hi
  ·exact absurd hi hb
 have live:∀ b,Live (R.upto g (n * sz) (setN R.obj id (.tok n g c))) b→Live R b:=fun b hl=>by
  obtain ⟨i,r,h1,h2⟩:=hl
  rcases setN_inj_ro hid h1 with ⟨_,rfl⟩ | ⟨_,h1⟩
  ·exact ⟨id,_,hid,h2⟩
  ·exact ⟨i,r,h1,h2⟩
 have hboxne:∀ k cs,lkB s.boxes k=some cs→β k≠g:=fun k cs hk eq=>(h.b.box k cs hk).2.2 (eq ▸ hgl)
 refine ⟨e,⟨⟨by simp [St.inG,Realm.upto,h.g.len],fun i gg r h1 h2=>?_,fun i j ri rj b h1 h2 b1 b2=>?_,fun b o hi=>?_,fun g cs hg=>(h.g.glob g cs hg).mono e,by first | exact h.g.lo | exact Nat.le_succ_of_le h.g.lo⟩,?_,h.t.mono e,h.n,h.d.mono e⟩,?_⟩
 ·rcases setN_inj_ro hid h2 with ⟨rfl,rfl⟩ | ⟨hne,h2⟩
  ·simp only [St.inG] at h1
   rw [nth_setN_self hg] at h1
   cases h1
   refine ⟨rfl,cur2,new,hn,hm,hsz,fun o' ho' hi=>?_⟩
   rcases hi with hi | ⟨_,hi⟩
   ·exact hfree o' (Nat.le_trans (Nat.mul_le_mul_right _ (Nat.le_of_lt hf)) ho') hi
   ·omega
  ·simp only [St.inG] at h1
   rw [nth_setN_ne (Ne.symm hne)] at h1
   have hbg:∀ b,r.has b→b≠g:=fun b hb eq=>hne (h.g.inj i id _ _ b h2 hid hb (by rw [eq]; rfl))
   exact (h.g.obj i gg r h1 h2).mono e (fun b hb=>old b (hbg b hb)) (fun b o hb=>hI b o (hbg b hb))
 ·rcases setN_inj_ro hid h1 with ⟨g3,e1⟩ | ⟨g3,g1⟩
  ·rcases setN_inj_ro hid h2 with ⟨g4,e2⟩ | ⟨g4,g2⟩
   ·omega
   ·rw [e1] at b1
    exact g3.trans (h.g.inj id j _ _ b hid g2 b1 b2)
  ·rcases setN_inj_ro hid h2 with ⟨g4,e2⟩ | ⟨g4,g2⟩
   ·rw [e2] at b2
    exact (h.g.inj i id _ _ b g1 hid b1 b2).trans g4.symm
   ·exact h.g.inj i j ri rj b g1 g2 b1 b2
 ·rcases hi with hi | ⟨rfl,_⟩
  ·have:=h.g.wf b o hi
   simpa using this
  ·have:=block_lt hcur
   simpa using this
 ·exact h.b.keep e (fun k cs hk=>old _ (hboxne k cs hk)) (fun k cs o hk=>hI _ o (hboxne k cs hk)) (fun k cs hk hl=>live _ hl)
 ·refine ⟨e,rfl,rfl,rfl,by simp,fun b hb hno=>old b (fun eq=>hno (.inl (eq ▸ hgl))),fun b hb ho=>?_,fun b o hi hb hno=>hI b o (fun eq=>hno (.inl (eq ▸ hgl))) hi⟩
  rcases ho with ho | ho
  ·exact .inl (live b ho)
  ·exact .inr ho
structure One (w w':World) (x:Obj):Prop where
 old:∀ b,b < w.heap.size→w'.heap[b]?=w.heap[b]?
 new:w'.heap[w.heap.size]?=some x
 size:w'.heap.size=w.heap.size+1
 os:w'.os=w.os
 tape:w'.tape=w.tape
 output:w'.output=w.output
 drawn:w.drawn≤w'.drawn
theorem One.alloc (w:World) (x:Obj):One w (w.alloc x) x:=⟨fun b hb=>heap_alloc_old w x b hb,heap_alloc_new w x,by simp,rfl,rfl,rfl,Nat.le_refl _⟩
theorem One.drew (w:World) (x:Obj):One w (w.drew.alloc x) x:=⟨fun b hb=>heap_alloc_old w.drew x b hb,heap_alloc_new w.drew x,by simp,rfl,rfl,rfl,Nat.le_succ _⟩
theorem ext_one {w':World} {x:Obj} (o1:One w w' x) (wf:∀ b o,R.I b o→b < w.heap.size) {n id:Nat} {r0 r1:RO} (hid:nth R.obj id=some r0) (hle:RoLe r0 r1):Ext R w (R.upto w.heap.size n (setN R.obj id r1)) w':=
 ⟨fun _ _ h=>.inl h,fun b o h=>cell_of_block (o1.old b (wf b o h)) o,fun i r h=>by
  by_cases e:id=i
  ·subst e
   rw [hid] at h
   cases h
   exact ⟨_,nth_setN_self hid,hle⟩
  ·exact ⟨r,by rw [Realm.upto,nth_setN_ne e]; exact h,RoLe.refl r⟩,.old fun b hb=>o1.old b hb⟩
theorem Rep.newBlk (h:Rep E R w β s a) {w':World} {x:Obj} (o1:One w w' x) {n id:Nat} {r0 r1:RO} {go0 go:GO} (hg:nth s.G id=some go0) (hid:nth R.obj id=some r0) (hle:RoLe r0 r1) (hhas:∀ b,r1.has b→b=w.heap.size∨r0.has b)
  (hgo:RepO (R.upto w.heap.size n (setN R.obj id r1)) w' go r1) :
  Rep E (R.upto w.heap.size n (setN R.obj id r1)) w' β (s.inG (setN s.G id go)) a∧Step R w β s.boxes (R.upto w.heap.size n (setN R.obj id r1)) w' β s.boxes:=by
 have e:=ext_one (R:=R) (n:=n) o1 h.g.wf hid hle
 have hI:∀ b o,b < w.heap.size→(R.upto w.heap.size n (setN R.obj id r1)).I b o→R.I b o:=fun b o hb hi=>by
  rcases hi with hi | ⟨hi,_⟩
  ·exact hi
  ·omega
 have live:∀ b,b < w.heap.size→Live (R.upto w.heap.size n (setN R.obj id r1)) b→Live R b:=fun b hb hl=>by
  obtain ⟨i,r,h1,h2⟩:=hl
  rcases setN_inj_ro hid h1 with ⟨_,rfl⟩ | ⟨_,h1⟩
  ·rcases hhas b h2 with h3 | h3
   ·omega
   ·exact ⟨id,r0,hid,h3⟩
  ·exact ⟨i,r,h1,h2⟩
 refine ⟨⟨⟨by simp [St.inG,Realm.upto,h.g.len],fun i gg r h1 h2=>?_,fun i j ri rj b h1 h2 b1 b2=>?_,fun b o hi=>?_,fun g cs hg=>(h.g.glob g cs hg).mono e,Nat.le_trans h.g.lo o1.drawn⟩,?_,h.t.mono e,h.n,h.d.mono e⟩,?_⟩
 ·rcases setN_inj_ro hid h2 with ⟨rfl,rfl⟩ | ⟨hne,h2⟩
  ·simp only [St.inG] at h1
   rw [nth_setN_self hg] at h1
   cases h1
   exact hgo
  ·simp only [St.inG] at h1
   rw [nth_setN_ne (Ne.symm hne)] at h1
   exact (h.g.obj i gg r h1 h2).mono e (fun b hb=>o1.old b (h.g.live_lt ⟨i,r,h2,hb⟩)) (fun b o hb=>hI b o (h.g.live_lt ⟨i,r,h2,hb⟩))
 ·rcases setN_inj_ro hid h1 with ⟨g3,e1⟩ | ⟨g3,g1⟩
  ·rcases setN_inj_ro hid h2 with ⟨g4,e2⟩ | ⟨g4,g2⟩
   ·omega
   ·rw [e1] at b1
    rcases hhas b b1 with b3 | b3
    ·have:=h.g.live_lt ⟨j,rj,g2,b2⟩
     omega
    ·exact g3.trans (h.g.inj id j _ _ b hid g2 b3 b2)
  ·rcases setN_inj_ro hid h2 with ⟨g4,e2⟩ | ⟨g4,g2⟩
   ·rw [e2] at b2
    rcases hhas b b2 with b3 | b3
    ·have:=h.g.live_lt ⟨i,ri,g1,b1⟩
     omega
    ·exact (h.g.inj i id _ _ b g1 hid b1 b3).trans g4.symm
   ·exact h.g.inj i j ri rj b g1 g2 b1 b2
 ·rcases hi with hi | ⟨rfl,_⟩
  ·have:=h.g.wf b o hi
   rw [o1.size]
   omega
  ·rw [o1.size]; omega
 ·exact h.b.keep e (fun k cs hk=>o1.old _ (h.own_lt (.inr ⟨k,cs,hk,rfl⟩))) (fun k cs o hk=>hI _ o (h.own_lt (.inr ⟨k,cs,hk,rfl⟩))) (fun k cs hk hl=>live _ (h.own_lt (.inr ⟨k,cs,hk,rfl⟩)) hl)
 ·refine ⟨e,o1.os,o1.tape,o1.output,by rw [o1.size]; omega,fun b hb _=>o1.old b hb,fun b hb ho=>?_,fun b o hi hb _=>hI b o hb hi⟩
  rcases ho with ho | ho
  ·exact .inl (live b hb ho)
  ·exact .inr ho
theorem Rep.roomBlk (h:Rep E R w β s a) {cur cur2:Array Value} {elem:TypeId} {n id g:Nat} {r0 r1:RO} {go0 go:GO} (hg:nth s.G id=some go0) (hid:nth R.obj id=some r0) (hg0:r0.has g) (hle:RoLe r0 r1) (hhas:∀ b,r1.has b→r0.has b)
  (hcur:w.heap[g]?=some (.cells cur elem (0,0))) (hkeep:∀ o,R.I g o→cur2[o]?=cur[o]?)
  (hgo:Ext R w (R.upto g n (setN R.obj id r1)) (w.setRow g cur2)→RepO (R.upto g n (setN R.obj id r1)) (w.setRow g cur2) go r1) :
  Ext R w (R.upto g n (setN R.obj id r1)) (w.setRow g cur2)∧Rep E (R.upto g n (setN R.obj id r1)) (w.setRow g cur2) β (s.inG (setN s.G id go)) a∧Step R w β s.boxes (R.upto g n (setN R.obj id r1)) (w.setRow g cur2) β s.boxes:=by
 have old:∀ b,b≠g→(w.setRow g cur2).heap[b]?=w.heap[b]?:=fun b hb=>setRow_other w g b cur2 hb
 have new:(w.setRow g cur2).heap[g]?=some (.cells cur2 elem (0,0)):=setRow_heap w g cur cur2 elem (0,0) hcur
 have hgl:Live R g:=⟨id,_,hid,hg0⟩
 have e:Ext R w (R.upto g n (setN R.obj id r1)) (w.setRow g cur2):=by
  refine ⟨fun _ _ hi=>.inl hi,fun b o hi=>?_,fun i r hr=>?_,fun b r hb=>⟨r,(old b fun e=>by subst e; rw [hcur] at hb; cases hb).trans hb,rfl,rfl,rfl,rfl,rfl⟩⟩
  ·by_cases hb:b=g
   ·subst hb
    simp only [World.cell?,new,hcur,hkeep o hi]
   ·exact cell_of_block (old b hb) o
  ·by_cases ei:id=i
   ·subst ei
    rw [hid] at hr
    cases hr
    exact ⟨_,nth_setN_self hid,hle⟩
   ·exact ⟨r,by rw [Realm.upto,nth_setN_ne ei]; exact hr,RoLe.refl r⟩
 have hI:∀ b o,b≠g→(R.upto g n (setN R.obj id r1)).I b o→R.I b o:=fun b o hb hi=>by
  rcases hi with hi | ⟨hi,_⟩
  ·exact hi
  ·exact absurd hi hb
 have live:∀ b,Live (R.upto g n (setN R.obj id r1)) b→Live R b:=fun b hl=>by
  obtain ⟨i,r,h1,h2⟩:=hl
  rcases setN_inj_ro hid h1 with ⟨_,rfl⟩ | ⟨_,h1⟩
  ·exact ⟨id,_,hid,hhas b h2⟩
  ·exact ⟨i,r,h1,h2⟩
 have hboxne:∀ k cs,lkB s.boxes k=some cs→β k≠g:=fun k cs hk eq=>(h.b.box k cs hk).2.2 (eq ▸ hgl)
 refine ⟨e,⟨⟨by simp [St.inG,Realm.upto,h.g.len],fun i gg r h1 h2=>?_,fun i j ri rj b h1 h2 b1 b2=>?_,fun b o hi=>?_,fun g cs hg=>(h.g.glob g cs hg).mono e,h.g.lo⟩,?_,h.t.mono e,h.n,h.d.mono e⟩,?_⟩
 ·rcases setN_inj_ro hid h2 with ⟨rfl,rfl⟩ | ⟨hne,h2⟩
  ·simp only [St.inG] at h1
   rw [nth_setN_self hg] at h1
   cases h1
   exact hgo e
  ·simp only [St.inG] at h1
   rw [nth_setN_ne (Ne.symm hne)] at h1
   have hbg:∀ b,r.has b→b≠g:=fun b hb eq=>hne (h.g.inj i id _ _ b h2 hid hb (by rw [eq]; exact hg0))
   exact (h.g.obj i gg r h1 h2).mono e (fun b hb=>old b (hbg b hb)) (fun b o hb=>hI b o (hbg b hb))
 ·rcases setN_inj_ro hid h1 with ⟨g3,e1⟩ | ⟨g3,g1⟩
  ·rcases setN_inj_ro hid h2 with ⟨g4,e2⟩ | ⟨g4,g2⟩
   ·omega
   ·rw [e1] at b1
    exact g3.trans (h.g.inj id j _ _ b hid g2 (hhas b b1) b2)
  ·rcases setN_inj_ro hid h2 with ⟨g4,e2⟩ | ⟨g4,g2⟩
   ·rw [e2] at b2
    exact (h.g.inj i id _ _ b g1 hid b1 (hhas b b2)).trans g4.symm
   ·exact h.g.inj i j ri rj b g1 g2 b1 b2
 ·rcases hi with hi | ⟨rfl,_⟩
  ·have:=h.g.wf b o hi
   simpa using this
  ·have:=block_lt hcur
   simpa using this
 ·exact h.b.keep e (fun k cs hk=>old _ (hboxne k cs hk)) (fun k cs o hk=>hI _ o (hboxne k cs hk)) (fun k cs hk hl=>live _ hl)
 ·refine ⟨e,rfl,rfl,rfl,by simp,fun b hb hno=>old b (fun eq=>hno (.inl (eq ▸ hgl))),fun b hb ho=>?_,fun b o hi hb hno=>hI b o (fun eq=>hno (.inl (eq ▸ hgl))) hi⟩
  rcases ho with ho | ho
  ·exact .inl (live b ho)
  ·exact .inr ho
theorem TsLe.set {ts:List TR} {j:Nat} {t t':TR} (ht:nth ts j=some t) (hle:TrLe t t'):TsLe ts (setN ts j t'):=fun i u hu=>by
 by_cases e:j=i
 ·subst e
  rw [ht] at hu
  cases hu
  exact ⟨t',nth_setN_self ht,hle⟩
 ·exact ⟨u,by rw [nth_setN_ne e]; exact hu,TrLe.refl u⟩
theorem fam_has {ts:List TR} {j n g c b:Nat} (h:RO.has (.fam (setN ts j (.tok n g c))) b):b=g∨RO.has (.fam ts) b:=by
 obtain ⟨i,f,c',hi⟩:=h
 rcases nth_setN hi with ⟨_,e,_⟩ | ⟨_,hi⟩
 ·cases e; exact .inl rfl
 ·exact .inr ⟨i,f,c',hi⟩
theorem TokAt.of {R':Realm} {w':World} {sz f:Nat} {e:TypeId} {t:TR} (h:TokAt R w sz e f t) (hold:∀ f b c,t=.tok f b c→w'.heap[b]?=w.heap[b]?∧∀ o,R'.I b o→R.I b o):TokAt R' w' sz e f t:=by
 cases t with
 | nil0=>exact h
 | full f'=>exact h
 | tok f' b c=>
  obtain ⟨h0,cur,h1,h2,h3,h4,h5⟩:=h
  obtain ⟨k1,k2⟩:=hold f' b c rfl
  exact ⟨h0,cur,k1.trans h1,h2,h3,h4,fun o ho hi=>h5 o ho (k2 o hi)⟩
theorem FamOk.set {R':Realm} {w':World} {sz:Nat} {e:TypeId} {fs:List Nat} {ts:List TR} (h:FamOk R w sz e fs ts) {j n g c:Nat} (hnew:TokAt R' w' sz e n (.tok n g c)) (hfresh:∀ i f c,nth ts i=some (.tok f g c)→i=j)
  (hold:∀ i f b c,i≠j→nth ts i=some (.tok f b c)→w'.heap[b]?=w.heap[b]?∧∀ o,R'.I b o→R.I b o):FamOk R' w' sz e (setN fs j n) (setN ts j (.tok n g c)):=by
 obtain ⟨h1,h2,h3⟩:=h
 refine ⟨by simp [h1],fun i i' f1 b c1 f2 c2 q1 q2=>?_,fun i f1 t1 q1 q2=>?_⟩
 ·rcases nth_setN q1 with ⟨n1,e1,_⟩ | ⟨n1,q1⟩
  ·cases e1
   rcases nth_setN q2 with ⟨n2,_,_⟩ | ⟨n2,q2⟩
   ·exact n1.symm.trans n2
   ·exact absurd (hfresh _ _ _ q2).symm n2
  ·rcases nth_setN q2 with ⟨n2,e2,_⟩ | ⟨n2,q2⟩
   ·cases e2
    exact (hfresh _ _ _ q1).trans n2
   ·exact h2 i i' _ _ _ _ _ q1 q2
 ·rcases nth_setN q1 with ⟨n1,e1,_⟩ | ⟨n1,q1⟩
  ·rcases nth_setN q2 with ⟨_,e2,_⟩ | ⟨n2,_⟩
   ·subst e1 e2
    exact hnew
   ·exact absurd n1 n2
  ·rcases nth_setN q2 with ⟨n2,_,_⟩ | ⟨n2,q2⟩
   ·exact absurd n2 n1
   ·exact (h3 i f1 t1 q1 q2).of fun f b c ht=>by subst ht; exact hold i f b c (Ne.symm n2) q2
end ops
end Go.Am
