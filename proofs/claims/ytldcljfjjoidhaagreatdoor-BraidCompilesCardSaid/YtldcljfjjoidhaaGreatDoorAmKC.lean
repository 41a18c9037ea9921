/- The abstract machine: what it does is what the model does: slices that are built and cut. -/
import Derived.Test.YtldcljfjjoidhaaGreatDoorAmKB
import Derived.IntWalk
set_option linter.all false
namespace Go.Am
open Go
theorem da (l r:List AV):av (l++r)=av l++av r:=by
 induction l with
 | nil=>rfl
 | cons e l ih=>simp [av,ih]
theorem eJ {sz:Nat} {es:List AV} (h:jT sz es):(av es).length=es.length * sz:=by
 induction es with
 | nil=>simp [av]
 | cons e es ih=>
  have h1:=(h e (by simp)).1
  have:=ih (fun x hx=>h x (by simp [hx]))
  simp only [av,List.length_append,this,h1,List.length_cons,Nat.add_mul]
  omega
section rel
variable {R:an} {w:World}
theorem mZ {b sz:Nat}:∀ {es:List AV} {o:Nat},jT sz es→eN R w b o (av es)→gQ R w b o sz es
 | [],_,_,_=>.nil
 | e :: es,o,h,hc=>by
  obtain ⟨h1,h2,h3⟩:=h e (by simp)
  obtain ⟨vs,k1,k2,k3,k4⟩:=hc.get
  have hd:=hc.drop sz
  have YK:(av (e :: es)).drop sz=av es:=by simp only [av]; rw [← h1,List.drop_left]
  have J7:(av (e :: es)).take sz=e.cells:=by simp only [av]; rw [← h1,List.take_left]
  rw [YK] at hd
  refine .cons h1 h2 h3 ?_ (mZ (fun x hx=>h x (by simp [hx])) hd)
  have kt:=k1.take sz
  rw [J7] at kt
  refine .make kt (fun v hv=>k2 v (List.mem_of_mem_take hv)) (fun j v hv=>k3 j v ?_) (fun j hj=>k4 j ?_)
  ·rw [List.getElem?_take] at hv
   split at hv
   ·exact hv
   ·cases hv
  ·simp only [av,List.length_append]
   omega
theorem xA {b sz:Nat}:∀ {es:List AV} {o:Nat},gQ R w b o sz es→jT sz es∧∃ vs,aQ R w (av es) vs∧(∀ v∈vs,v.oneCell'=true)∧(∀ j v,vs[j]?=some v→w.cell? ⟨b,o+j,none⟩=some v)∧∀ j,j < es.length * sz→R.I b (o+j)
 | [],o,_=>⟨fun e he=>by simp at he,[],.nil,by simp,by simp,by simp⟩
 | e :: es,o,h=>by
  cases h with
  | cons hl ht hk hc t=>
   obtain ⟨g0,vs,g1,g2,g3,g4⟩:=xA t
   obtain ⟨us,f1,f2,f3,f4⟩:=hc.get
   have hlen:us.length=sz:=by rw [← f1.length,hl]
   refine ⟨fun x hx=>?_,us++vs,f1.append g1,fun v hv=>?_,fun j v hv=>?_,fun j hj=>?_⟩
   ·rcases List.mem_cons.1 hx with rfl | hx
    ·exact ⟨hl,ht,hk⟩
    ·exact g0 x hx
   ·rcases List.mem_append.1 hv with hv | hv
    ·exact f2 v hv
    ·exact g2 v hv
   ·by_cases hj:j < sz
    ·rw [List.getElem?_append_left (by omega)] at hv
     exact f3 j v hv
    ·rw [List.getElem?_append_right (by omega),hlen] at hv
     have:=g3 _ v hv
     rwa [show o+sz+(j - sz)=o+j by omega] at this
   ·by_cases N6:j < sz
    ·exact f4 j (by omega)
    ·have:=g4 (j - sz) (by simp only [List.length_cons,Nat.add_mul] at hj; omega)
     rwa [show o+sz+(j - sz)=o+j by omega] at this
theorem AE {b sz:Nat}:∀ (n:Nat) {es:List AV} {o:Nat},gQ R w b o sz es→gQ R w b (o+n * sz) sz (es.drop n)
 | 0,es,o,h=>by simpa using h
 | n+1,[],o,h=>by simpa using gQ.nil
 | n+1,e :: es,o,h=>by
  cases h with
  | cons hl ht hk hc t=>
   have:=AE n t
   rw [show o+sz+n * sz=o+(n+1) * sz by rw [Nat.add_mul]; omega] at this
   simpa using this
theorem uf {b sz:Nat}:∀ (n:Nat) {es:List AV} {o:Nat},gQ R w b o sz es→gQ R w b o sz (es.take n)
 | 0,es,o,h=>by simpa using gQ.nil
 | n+1,[],o,h=>by simpa using gQ.nil
 | n+1,e :: es,o,h=>by
  cases h with
  | cons hl ht hk hc t=>simpa using gQ.cons hl ht hk hc (uf n t)
end rel
theorem gB {sz n:Nat} {z:AV} (h1:z.cells.length=sz) (h2:z.a6=true) (h3:z.closed=true):jT sz (List.replicate n z):=fun e he=>by
 rw [List.mem_replicate] at he
 rw [he.2]
 exact ⟨h1,h2,h3⟩
theorem xB {sz:Nat}:∀ {es:List AV} {i:Nat} {v:AV},jT sz es→i < es.length→v.cells.length=sz→av (aF es i v)=ck (av es) (i * sz) v.cells
 | [],i,v,_,h,_=>by simp at h
 | e :: es,0,v,h,_,hv=>by
  have h1:=(h e (by simp)).1
  simp only [aF,av,Nat.zero_mul]
  rw [fD _ 0 _ (by simp; omega)]
  simp only [List.take_zero,List.nil_append,Nat.zero_add]
  rw [hv,← h1,List.drop_left]
 | e :: es,i+1,v,h,hi,hv=>by
  have h1:=(h e (by simp)).1
  have JH:jT sz es:=fun x hx=>h x (by simp [hx])
  have ih:=xB (i:=i) (v:=v) JH (by simpa using hi) hv
  have cu:i < es.length:=by simpa using hi
  have hle:i * sz+sz≤es.length * sz:=by rw [← Nat.succ_mul]; exact Nat.mul_le_mul_right _ cu
  have hl:=eJ JH
  simp only [aF,av]
  have e1:(i+1) * sz=e.cells.length+i * sz:=by rw [h1,Nat.succ_mul]; omega
  have e2:List.take (e.cells.length+i * sz) e.cells=e.cells:=List.take_of_length_le (by omega)
  rw [ih,fD _ _ _ (by omega),e1,fD _ _ _ (by simp only [List.length_append]; omega)]
  rw [List.take_append,e2,Nat.add_assoc,List.drop_append,List.drop_of_length_le (by omega:e.cells.length≤e.cells.length+(i * sz+v.cells.length))]
  simp [Nat.add_sub_cancel_left]
theorem Il {sz:Nat} {es:List AV} {i:Nat} {v:AV} (h:jT sz es) (h1:v.cells.length=sz) (h2:v.a6=true) (h3:v.closed=true):jT sz (aF es i v):=fun e he=>by
 rw [gR] at he
 rcases List.mem_or_eq_of_mem_set he with he | rfl
 ·exact h e he
 ·exact ⟨h1,h2,h3⟩
theorem vn {sz:Nat}:∀ {ps:List (Nat × AV)} {es es':List AV},CH sz es ps=some es'→jT sz es →
  vj (fun i=>some (i * sz,sz)) (av es) ps=some (av es')∧jT sz es'∧es'.length=es.length
 | [],es,es',h,hk=>by simp [CH] at h; subst h; exact ⟨rfl,hk,rfl⟩
 | (i,v) :: ps,es,es',h,hk=>by
  unfold CH at h
  split at h
  ·rename_i hc
   simp only [Bool.and_eq_true] at hc
   obtain ⟨⟨⟨hn,hl⟩,hi⟩,AF⟩:=hc
   have hl':=Nat.eq_of_beq_eq_true hl
   have ua:=Nat.le_of_ble_eq_true hi
   obtain ⟨g1,g2,g3⟩:=vn h (Il hk hl' hn AF)
   refine ⟨?_,g2,by simpa using g3⟩
   unfold vj
   have hle:Nat.ble (i * sz+sz) (av es).length=true:=by
    apply Nat.ble_eq_true_of_le
    rw [eJ hk,← Nat.succ_mul]
    exact Nat.mul_le_mul_right _ ua
   simp only [hn,hl,hle,Bool.and_self,if_true]
   rw [← xB hk (by omega) hl']
   exact g1
  ·cases h
section ops
variable {E:Env} {R:an} {w:World} {β:Nat→Nat} {s:St} {a:Act} {o:Oper}
def an.XX (R:an) (b:Nat):an:=⟨fun b' o=>R.I b' o∨b'=b,R.obj⟩
theorem BH (wf:∀ b o,R.I b o→b < w.heap.size) (x:Obj):Ext R w (R.XX w.heap.size) (w.alloc x):=
 ⟨fun _ _ h=>.inl h,fun b o h=>ca (heap_alloc_old w x b (wf b o h)) o,fun _ ro h=>⟨ro,h,cJ.refl ro⟩,.old fun b hb=>heap_alloc_old w x b hb⟩
theorem bo.XX (h:bo E R w β s a) (x:Obj):bo E (R.XX w.heap.size) (w.alloc x) β s a:=
 h.bJ (BH h.g.wf x) rfl (fun b hb=>heap_alloc_old w x b (h.fa hb)) (fun b o hb hi=>by
  rcases hi with hi | hi
  ·exact hi
  ·have:=h.fa hb
   omega) (fun b o hi=>by
  rcases hi with hi | hi
  ·have:=h.g.wf b o hi
   simp
   omega
  ·simp
   omega)
theorem J8 (h:bo E R w β s a) (x:Obj):Step R w β s.boxes (R.XX w.heap.size) (w.alloc x) β s.boxes:=
 ⟨BH h.g.wf x,rfl,rfl,rfl,by simp,fun b hb _=>heap_alloc_old w x b hb,fun _ _ ho=>ho,fun b o hi hb _=>by
  rcases hi with hi | hi
  ·exact hi
  ·omega⟩
theorem ph (z:Array Value):∀ (n:Nat),(((Array.range (n * z.size)).map fun i=>z[i % z.size]!)).toList=(List.replicate n z.toList).flatten
 | 0=>by simp
 | n+1=>by
  have ih:=ph z n
  simp only [Array.toList_map,Array.toList_range] at ih ⊢
  rw [Nat.add_mul,Nat.one_mul,List.range_add,List.map_append,ih,List.replicate_succ',List.flatten_append]
  congr 1
  simp only [List.map_map,List.flatten_cons,List.flatten_nil,List.append_nil]
  apply List.ext_getElem?
  intro i
  by_cases hi:i < z.size
  ·simp only [List.getElem?_map,List.getElem?_range hi,Option.map_some,Function.comp_apply]
   rw [Nat.mul_comm n,Nat.mul_add_mod,Nat.mod_eq_of_lt hi]
   simp [hi]
  ·rw [List.getElem?_eq_none (by simp; omega),List.getElem?_eq_none (by simp; omega)]
theorem na {z:AV} {c:Value} (hr:Rel R w z c) (hn:z.a6=true):∀ (n:Nat),aQ R w (av (List.replicate n z)) (List.replicate n c.cells.toList).flatten∧∀ v∈(List.replicate n c.cells.toList).flatten,v.oneCell'=true
 | 0=>by simp [av]; exact .nil
 | n+1=>by
  obtain ⟨c1,c2⟩:=Rel.cells hr hn
  obtain ⟨h1,h2⟩:=na hr hn n
  refine ⟨?_,fun v hv=>?_⟩
  ·simpa [List.replicate_succ,av] using c1.append h1
  ·simp only [List.replicate_succ,List.flatten_cons,List.mem_append] at hv
   rcases hv with hv | hv
   ·exact c2 v hv
   ·exact h2 v hv
theorem ug:∀ {ps:List (Nat × AV)} {us:List Value},aQ R w (ps.map (·.2)) us→aQ R w ((As ps).map (·.2)) us
 | [],_,h=>h
 | (_,_) :: _,_,.cons h t=>.cons h.ia (ug t)
theorem uh:∀ (ps:List (Nat × AV)),(As ps).map (·.1)=ps.map (·.1)
 | []=>rfl
 | (i,v) :: l=>by simp [As,uh l]
theorem jh (h:bo E R w β s a) (t:TypeId) (len:Nat) (parts:Array (Nat × Operand)) (ho:o.op=.buildSlice t len parts) {v:AV} (hv:cj E s t len parts.toList=some v) :
  ∃ es esz us elem,v=.list .full esz es∧(execOp a.eval o).run E.P w=.ok (.value (.slice (some ⟨w.heap.size,0,none⟩) len len)) (w.alloc (.cells ⟨us⟩ elem))∧jT esz es∧es.length=len∧aQ R w (av es) us∧(∀ x∈us,x.oneCell'=true)∧∃ i ag pd z,E.ti t=some i∧i.k=.sl elem esz ag pd z:=by
 unfold cj at hv
 split at hv
 ·rename_i i ps hi JG
  split at hv
  ·rename_i elem esz ag pd z hk
   split at hv
   ·rename_i hc
    simp only [Bool.and_eq_true] at hc
    obtain ⟨⟨⟨⟨Im,YL⟩,YM⟩,hz4⟩,hz5⟩:=hc
    have Im:=Nat.eq_of_beq_eq_true Im
    have YL:=Nat.le_of_ble_eq_true YL
    have YM:=Nat.le_of_ble_eq_true YM
    split at hv
    ·rename_i es JH
     cases hv
     obtain ⟨ig,u,e1,e2,e3,e4,e5,e6⟩:=cn E hi
     rw [hk] at e5
     obtain ⟨ie,ue,rfl,f1,f2,f3,f4,f5,f6⟩:=eF e5
     obtain ⟨zc,rN,EF⟩:=dB f6
     have Tc:=EF R w
     obtain ⟨c1,c2⟩:=Rel.cells Tc hz4
     have ql:zc.cells.size=esz:=by rw [← Im,c1.length]; simp
     obtain ⟨p1,p2⟩:=wI h JG
     obtain ⟨z1,z2⟩:=na Tc hz4 len
     obtain ⟨g1,g2,g3⟩:=vn JH (gB Im hz4 hz5)
     obtain ⟨us,u1,u2,u3⟩:=pg (R:=R) (w:=w) _ (ug p1) ((uh ps).trans p2) z1 z2 g1
     have Un:(parts.map fun (x:Nat × Operand)=>(x.1,a.eval x.2)).toList=parts.toList.map fun x=>(x.1,a.eval x.2):=by simp
     have xC:((Array.range (len * esz)).map fun i=>zc.cells[i % zc.cells.size]!)=⟨(List.replicate len zc.cells.toList).flatten⟩:=by
      apply Array.ext'
      rw [← ql]
      exact ph zc.cells len
     have hlen:es.length=len:=by simpa using g3
     have bK:(Instr.buildSlice t len (parts.map fun (x:Nat × Operand)=>(x.1,a.eval x.2))).run E.P w=.ok (.slice (some ⟨w.heap.size,0,none⟩) len len) (w.alloc (.cells ⟨us⟩ elem)):=by
      have E5:¬ len * esz > 2 ^ 24:=by omega
      by_cases h0:len * esz=0
      ·have xD:len=0:=by
        rcases Nat.mul_eq_zero.1 h0 with h0 | h0 <;> omega
       subst xD
       have u1':Instr.fill (fun i=>some (i * esz,esz)) #[] (parts.toList.map fun x=>(x.1,a.eval x.2))=some ⟨us⟩:=by simpa using u1
       simp only [Instr.buildSlice,Sem.run_bind,run_underlying e2,Result.andThen_ok,run_sizeOf w f1,f2]
       simp only [Nat.zero_mul,gt_iff_lt,Nat.not_lt_zero,if_false,if_true,Sem.run_bind,Sem.run_pure,Result.andThen_ok,Un]
       have CM:∀ f:Nat→Value,Array.map f (Array.range 0)=#[]:=fun f=>by simp
       simp only [CM,u1',newRow,Sem.run_bind,run_newObj,Result.andThen_ok,Sem.run_pure]
       rfl
      ·simp only [Instr.buildSlice,Sem.run_bind,run_underlying e2,Result.andThen_ok,run_sizeOf w f1,f2]
       rw [if_neg E5,if_neg h0]
       simp only [Sem.run_bind,Sem.run_pure,Result.andThen_ok,ij w f1 rN,Un,xC,u1,newRow,run_newObj]
       rfl
     exact ⟨es,esz,us,elem,rfl,by simp only [execOp,ho,Sem.run_bind,bK,Result.andThen_ok,Sem.run_pure],g2,hlen,u2,u3,i,ag,pd,_,hi,hk⟩
    ·cases hv
   ·cases hv
  ·cases hv
 ·cases hv
theorem vZ (h:bo E R w β s a) (t:TypeId) (len:Nat) (parts:Array (Nat × Operand)) (ho:o.op=.buildSlice t len parts) {cs:List AV} (hv:kC E s t len parts.toList=some cs) :
  ∃ esz us elem,(execOp a.eval o).run E.P w=.ok (.value (.slice (some ⟨w.heap.size,0,none⟩) len len)) (w.alloc (.cells ⟨us⟩ elem))∧aQ R w cs us∧(∀ x∈us,x.oneCell'=true)∧∃ i ag pd z,E.ti t=some i∧i.k=.sl elem esz ag pd z:=by
 unfold kC at hv
 split at hv
 ·rename_i i ps hi JG
  split at hv
  ·rename_i elem esz ag pd z hk
   split at hv
   ·rename_i hc
    simp only [Bool.and_eq_true] at hc
    obtain ⟨⟨⟨Im,YL⟩,YM⟩,hz4⟩:=hc
    have Im:=Nat.eq_of_beq_eq_true Im
    have YL:=Nat.le_of_ble_eq_true YL
    have YM:=Nat.le_of_ble_eq_true YM
    ·have g1:=hv
     obtain ⟨ig,u,e1,e2,e3,e4,e5,e6⟩:=cn E hi
     rw [hk] at e5
     obtain ⟨ie,ue,rfl,f1,f2,f3,f4,f5,f6⟩:=eF e5
     obtain ⟨zc,rN,EF⟩:=dB f6
     have Tc:=EF R w
     obtain ⟨c1,c2⟩:=Rel.cells Tc hz4
     have ql:zc.cells.size=esz:=by rw [← Im,c1.length]; simp
     obtain ⟨p1,p2⟩:=wI h JG
     obtain ⟨z1,z2⟩:=na Tc hz4 len
     obtain ⟨us,u1,u2,u3⟩:=pg (R:=R) (w:=w) _ (ug p1) ((uh ps).trans p2) z1 z2 g1
     have Un:(parts.map fun (x:Nat × Operand)=>(x.1,a.eval x.2)).toList=parts.toList.map fun x=>(x.1,a.eval x.2):=by simp
     have xC:((Array.range (len * esz)).map fun i=>zc.cells[i % zc.cells.size]!)=⟨(List.replicate len zc.cells.toList).flatten⟩:=by
      apply Array.ext'
      rw [← ql]
      exact ph zc.cells len
     have bK:(Instr.buildSlice t len (parts.map fun (x:Nat × Operand)=>(x.1,a.eval x.2))).run E.P w=.ok (.slice (some ⟨w.heap.size,0,none⟩) len len) (w.alloc (.cells ⟨us⟩ elem)):=by
      have E5:¬ len * esz > 2 ^ 24:=by omega
      by_cases h0:len * esz=0
      ·have xD:len=0:=by
        rcases Nat.mul_eq_zero.1 h0 with h0 | h0 <;> omega
       subst xD
       have u1':Instr.fill (fun i=>some (i * esz,esz)) #[] (parts.toList.map fun x=>(x.1,a.eval x.2))=some ⟨us⟩:=by simpa using u1
       simp only [Instr.buildSlice,Sem.run_bind,run_underlying e2,Result.andThen_ok,run_sizeOf w f1,f2]
       simp only [Nat.zero_mul,gt_iff_lt,Nat.not_lt_zero,if_false,if_true,Sem.run_bind,Sem.run_pure,Result.andThen_ok,Un]
       have CM:∀ f:Nat→Value,Array.map f (Array.range 0)=#[]:=fun f=>by simp
       simp only [CM,u1',newRow,Sem.run_bind,run_newObj,Result.andThen_ok,Sem.run_pure]
       rfl
      ·simp only [Instr.buildSlice,Sem.run_bind,run_underlying e2,Result.andThen_ok,run_sizeOf w f1,f2]
       rw [if_neg E5,if_neg h0]
       simp only [Sem.run_bind,Sem.run_pure,Result.andThen_ok,ij w f1 rN,Un,xC,u1,newRow,run_newObj]
       rfl
     exact ⟨esz,us,elem,by simp only [execOp,ho,Sem.run_bind,bK,Result.andThen_ok,Sem.run_pure],u2,u3,i,ag,pd,_,hi,hk⟩
   ·cases hv
  ·cases hv
 ·cases hv
theorem v7 (h:bo E R w β s a) (t:TypeId) (len:Nat) (parts:Array (Nat × Operand)) (ho:o.op=.buildSlice t len parts) {v:AV} (hv:cj E s t len parts.toList=some v) :
  b7 E R w β s a o (s.put o.dst (.v v)):=by
 obtain ⟨es,esz,us,elem,rfl,bK,g2,hlen,u2,u3,_⟩:=jh h t len parts ho hv
 have e:=BH (R:=R) (w:=w) h.g.wf (.cells ⟨us⟩ elem)
 refine ⟨_,.slice (some ⟨w.heap.size,0,none⟩) len len,_,R.XX w.heap.size,β,bK,.inl rfl,(h.XX (.cells ⟨us⟩ elem)).put o.dst ?_,by rw [bc]; exact J8 h _⟩
 refine Rel.list (mZ g2 (eN.make (u2.mono e) u3 (fun j x hx=>?_) (fun j _=>.inr rfl))) hlen.symm (Nat.le_refl _) rfl
 rw [jW (heap_alloc_new w _)]
 simpa using hx
theorem ui (h:bo E R w β s a) (t:TypeId) (len:Nat) (parts:Array (Nat × Operand)) (ho:o.op=.buildSlice t len parts) {cs:List AV} (hv:kC E s t len parts.toList=some cs) {i:TI} (hi:E.ti t=some i) {el:TypeId} {esz eb:Nat} {ag:Bool} {z:Option AV} (hk:i.k=.sl el esz ag eb z) :
  b7 E R w β s a o ((s.eL (.row cs el)).put o.dst (.v (.kB s.G.length 0 esz len len))):=by
 obtain ⟨Uo,us,elem,bK,u2,u3,i',ag',YN,z',ua,jg⟩:=vZ h t len parts ho hv
 rw [hi] at ua
 cases ua
 rw [hk] at jg
 cases jg
 have e:=iz (R:=R) (w:=w) h.g.wf (.cells ⟨us⟩ el) (.b9 w.heap.size)
 have jc:ic (R.add (.b9 w.heap.size)) (w.alloc (.cells ⟨us⟩ el)) (.row cs el) (.b9 w.heap.size):=
  ⟨_,heap_alloc_new w _,u2.mono e,u3,fun o' hi=>by have:=h.g.wf _ _ hi; omega⟩
 exact ⟨_,_,_,R.add (.b9 w.heap.size),β,bK,.inl rfl,(h.mD _ _ _ (by exact fun _ h=>h) jc).put o.dst (x:=.v (.kB s.G.length 0 esz len len)) (Rel.kB (gS h _) (Nat.le_refl _)),by rw [bc]; exact dh h _ _ (by exact fun _ h=>h)⟩
theorem uj (h:bo E R w β s a) (t:TypeId) (len:Nat) (parts:Array (Nat × Operand)) (ho:o.op=.buildSlice t len parts) {k:LK} {esz:Nat} {es:List AV} (hv:cj E s t len parts.toList=some (.list k esz es)) {i:TI} (hi:E.ti t=some i) {el:TypeId} {bQ eb:Nat} {ag:Bool} {z:Option AV} (hk:i.k=.sl el bQ ag eb z) :
  b7 E R w β s a o ((s.eL (.row (av es) el)).put o.dst (.v (.kB s.G.length 0 esz len len))):=by
 obtain ⟨es',Uo,us,elem,YO,bK,g2,hlen,u2,u3,i',ag',YN,z',ua,jg⟩:=jh h t len parts ho hv
 cases YO
 rw [hi] at ua
 cases ua
 rw [hk] at jg
 cases jg
 have e:=iz (R:=R) (w:=w) h.g.wf (.cells ⟨us⟩ el) (.b9 w.heap.size)
 have jc:ic (R.add (.b9 w.heap.size)) (w.alloc (.cells ⟨us⟩ el)) (.row (av es) el) (.b9 w.heap.size):=
  ⟨_,heap_alloc_new w _,u2.mono e,u3,fun o' hi=>by have:=h.g.wf _ _ hi; omega⟩
 exact ⟨_,_,_,R.add (.b9 w.heap.size),β,bK,.inl rfl,(h.mD _ _ _ (by exact fun _ h=>h) jc).put o.dst (x:=.v (.kB s.G.length 0 esz len len)) (Rel.kB (gS h _) (Nat.le_refl _)),by rw [bc]; exact dh h _ _ (by exact fun _ h=>h)⟩
end ops
end Go.Am
namespace Go.Am
open Go
section ops
variable {E:Env} {R:an} {w:World} {β:Nat→Nat} {s:St} {a:Act} {o:Oper}
def Up (R:an) (w:World) (β:Nat→Nat):Option SV→Option Value→Prop
 | none,none=>True
 | some x,some c=>qP R w β x c
 | _,_=>False
theorem AG {y y' n:Nat} {x:SV} {c:Value} (hx:qP R w β x c) (hb:Bw y x=some (true,n)) (hy:y≤y') (code:BoundsCode) :
  (Instr.sliceBound c y' code).run E.P w=.ok n w∧n≤y:=by
 unfold Bw at hb
 split at hb
 ·rename_i k m
  injection hb with hb
  injection hb with h1 h2
  subst h2
  obtain ⟨h0,h3⟩:=of_decide_eq_true h1
  have uc:Rel R w (.int k m) c:=hx
  cases uc
  exact ⟨run_sliceBound (P:=E.P) w k m y' code h0 (by omega),by omega⟩
 ·cases hb
theorem eV (isS:Bool) {len cap l h:Nat} (GN:len≤cap) {lo hi:Option SV} {lv hv:Option Value} (hl:Up R w β lo lv) (hh:Up R w β hi hv) (hb:ES len lo hi=some (true,l,h)) :
  (Instr.sliceBounds isS len cap lv hv none).run E.P w=.ok (l,h,cap) w∧l≤h∧h≤len:=by
 unfold ES at hb
 split at hb
 ·cases hb
 ·rename_i c1 h' kR
  split at hb
  ·cases hb
  ·rename_i c2 l' Uq
   injection hb with hb
   injection hb with hc hb
   injection hb with e1 e2
   subst e1; subst e2
   simp only [Bool.and_eq_true] at hc
   obtain ⟨rfl,rfl⟩:=hc
   have H:∃ _:True,(match hv with | some v=>Instr.sliceBound v cap (if isS=true then .sliceAcap else .sliceAlen) | none=>pure len).run E.P w=.ok h' w∧h'≤len:=by
    refine ⟨trivial,?_⟩
    cases hi with
    | none=>cases hv with
     | none=>simp at kR; subst kR; exact ⟨rfl,Nat.le_refl _⟩
     | some v=>exact hh.elim
    | some x=>cases hv with
     | none=>exact hh.elim
     | some v=>exact AG (E:=E) hh kR GN _
   have L:∃ _:True,(match lv with | some v=>Instr.sliceBound v h' .sliceB | none=>pure 0).run E.P w=.ok l' w∧l'≤h':=by
    refine ⟨trivial,?_⟩
    cases lo with
    | none=>cases lv with
     | none=>simp at Uq; subst Uq; exact ⟨rfl,Nat.zero_le _⟩
     | some v=>exact hl.elim
    | some x=>cases lv with
     | none=>exact hl.elim
     | some v=>exact AG (E:=E) hl Uq (Nat.le_refl _) _
   obtain ⟨_,H1,H2⟩:=H
   obtain ⟨_,L1,L2⟩:=L
   refine ⟨?_,L2,H2⟩
   cases hv <;> cases lv <;> simp_all [Instr.sliceBounds]
theorem CN (h:bo E R w β s a) {x:Option Operand} {y:Option SV} (hx:nI E s.ae x=some y):Up R w β y (x.map a.eval):=by
 cases x with
 | none=>simp [nI] at hx; subst hx; trivial
 | some x=>simp [nI] at hx; subst hx; exact aX h x
theorem pj {α:Type} {l:List α} {lo hi:Nat} (h:hi≤l.length):(eR lo hi l).length=hi - lo:=by
 simp [eR]
 omega
theorem zX (l:List UInt8) (lo hi:Nat):(⟨⟨l⟩⟩:ByteArray).extract lo hi=⟨⟨eR lo hi l⟩⟩:=by
 apply ByteArray.ext
 rw [ByteArray.data_extract]
 apply Array.ext'
 simp [List.extract_eq_take_drop,eR,List.drop_take]
theorem GP {ag:Bool} {b sz:Nat} (fu:(ag || Nat.beq sz 1)=true):∀ (n:Nat) {cs:List AV} {o:Nat},eN R w b o cs→n * sz≤cs.length→allFit (ET ag) (iF ag sz n cs)=true→gQ R w b o sz (iF ag sz n cs)
 | 0,_,_,_,_,_=>.nil
 | n+1,cs,o,hc,hl,hf=>by
  simp only [iF,allFit,Bool.and_eq_true] at hf
  obtain ⟨xF,hf2⟩:=hf
  unfold ET at xF
  simp only [Bool.and_eq_true] at xF
  obtain ⟨⟨h1,h2⟩,h3⟩:=xF
  have hle:sz≤cs.length:=by rw [Nat.succ_mul] at hl; omega
  have mE:(Yy ag (cs.take sz)).cells=cs.take sz:=by
   cases ag with
   | true=>rfl
   | false=>
    have Ta:sz=1:=by simpa using fu
    subst Ta
    match cs,hle with
    | a :: cs,_=>
     show AV.cells a=[a]
     have ho:a.one=true:=by simpa [Yy,fc] using h2
     cases a <;> first | rfl | simp [AV.one] at ho
  obtain ⟨vs,k1,k2,k3,k4⟩:=hc.get
  have hA:eN R w b o (cs.take sz):=eN.make (k1.take sz) (fun v hv=>k2 v (List.mem_of_mem_take hv)) (fun j v hv=>k3 j v (by
   rw [List.getElem?_take] at hv
   split at hv
   ·exact hv
   ·cases hv)) (fun j hj=>k4 j (by rw [List.length_take] at hj; omega))
  exact .cons (by rw [mE,List.length_take,Nat.min_eq_left hle]) h1 h3 (by rw [mE]; exact hA) (GP fu n (hc.drop sz) (by rw [List.length_drop]; rw [Nat.succ_mul] at hl; omega) hf2)
theorem rb (ag:Bool) (sz:Nat):∀ (n:Nat) (cs:List AV),(iF ag sz n cs).length=n
 | 0,_=>rfl
 | n+1,cs=>by simp [iF,rb ag sz n]
theorem E8 (h:bo E R w β s a) (t:TypeId) (x:Operand) (lo hi:Option Operand) (ho:o.op=.slice t x lo hi none) {l h':Option SV} (hl:nI E s.ae lo=some l) (hh:nI E s.ae hi=some h') {v:AV} (hv:Bx E t (bM E s.ae x) l h' none=some (true,v)) :
  b7 E R w β s a o (s.put o.dst (.v v)):=by
 have rx:=aX h x
 have rl:=CN h hl
 have rh:=CN h hh
 unfold Bx at hv
 split at hv
 ·rename_i i ua hmx
  obtain ⟨ig,u,e1,e2,e3,e4,e5,e6⟩:=cn E ua
  split at hv
  ·-- a string
   rename_i bs hk hx
   rw [hx] at rx
   have eI:Rel R w (.str bs) (a.eval x):=rx
   generalize fY:a.eval x=xv at eI
   cases eI
   rw [hk] at e5
   have:=k9 e5
   subst this
   split at hv
   ·rename_i c p q hb
    injection hv with hv
    injection hv with h1 h2
    subst h1; subst h2
    obtain ⟨k1,k2,k3⟩:=eV (E:=E) false (Nat.le_refl _) rl rh hb
    refine au h (c:=.string ⟨⟨eR p q bs⟩⟩) ?_ (Rel.str _)
    rw [← zX]
    simp only [execOp,ho,Instr.sliceAt,Sem.run_bind,run_underlying e2,Result.andThen_ok,Instr.slice,fY,Option.map_none,Option.isSome_none,Bool.false_eq_true,if_false,size_bytes,k1,Sem.run_pure]
   ·cases hv
  ·-- a list
   rename_i elem esz ag pd z k sz es hk hx
   rw [hx] at rx
   rw [hk] at e5
   obtain ⟨ie,ue,rfl,f1,f2,f3,f4,f5,f6⟩:=eF e5
   split at hv
   ·rename_i fu
    split at hv
    ·rename_i c p q hb
     injection hv with hv
     injection hv with h1 h2
     subst h1; subst h2
     have eI:Rel R w (.list k sz es) (a.eval x):=rx
     generalize fY:a.eval x=xv at eI
     cases eI with
     | km=>
      obtain ⟨k1,k2,k3⟩:=eV (E:=E) true (Nat.le_refl _) rl rh hb
      simp only [List.length_nil,Nat.le_zero_eq] at k3
      subst k3
      have:p=0:=by omega
      subst this
      refine au h (c:=.slice none 0 0) ?_ ?_
      ·simp only [execOp,ho,Instr.sliceAt,Sem.run_bind,run_underlying e2,Result.andThen_ok,Instr.slice,fY,Option.map_none]
       simp only [List.length_nil] at k1
       simp [k1,run_sizeOf w f1]
      ·exact Rel.km
     | jA=>
      obtain ⟨k1,k2,k3⟩:=eV (E:=E) true (Nat.le_refl _) rl rh hb
      simp only [List.length_nil,Nat.le_zero_eq] at k3
      subst k3
      have:p=0:=by omega
      subst this
      refine au h (c:=.slice none 0 0) ?_ ?_
      ·simp only [execOp,ho,Instr.sliceAt,Sem.run_bind,run_underlying e2,Result.andThen_ok,Instr.slice,fY,Option.map_none]
       simp only [List.length_nil] at k1
       simp [k1,run_sizeOf w f1]
      ·exact Rel.jA
     | @nL _ ad=>
      obtain ⟨k1,k2,k3⟩:=eV (E:=E) true (Nat.le_refl _) rl rh hb
      simp only [List.length_nil,Nat.le_zero_eq] at k3
      subst k3
      have:p=0:=by omega
      subst this
      refine au h (c:=.slice (some ad) 0 0) ?_ ?_
      ·simp only [execOp,ho,Instr.sliceAt,Sem.run_bind,run_underlying e2,Result.andThen_ok,Instr.slice,fY,Option.map_none]
       simp only [List.length_nil] at k1
       simp [k1,run_sizeOf w f1]
      ·exact Rel.nL
     | mV h0 XY=>
      obtain ⟨k1,k2,k3⟩:=eV (E:=E) true (Nat.le_refl _) rl rh hb
      simp only [List.length_nil,Nat.le_zero_eq] at k3
      subst k3
      have:p=0:=by omega
      subst this
      refine au h (c:=.slice none 0 0) ?_ ?_
      ·simp only [execOp,ho,Instr.sliceAt,Sem.run_bind,run_underlying e2,Result.andThen_ok,Instr.slice,fY,Option.map_none]
       simp only [List.length_nil] at k1
       simp [k1,run_sizeOf w f1]
      ·exact Rel.jA
     | mB h0 XY=>
      obtain ⟨k1,k2,k3⟩:=eV (E:=E) true (Nat.le_refl _) rl rh hb
      simp only [List.length_nil,Nat.le_zero_eq] at k3
      subst k3
      have:p=0:=by omega
      subst this
      refine au h (c:=.slice none 0 0) ?_ ?_
      ·simp only [execOp,ho,Instr.sliceAt,Sem.run_bind,run_underlying e2,Result.andThen_ok,Instr.slice,fY,Option.map_none]
       simp only [List.length_nil] at k1
       simp [k1,run_sizeOf w f1]
      ·exact Rel.jA
     | @list _ _ _ b o' len cap hr hlen iG J3=>
      subst hlen
      obtain ⟨k1,k2,k3⟩:=eV (E:=E) true iG rl rh hb
      have YP:es≠[]→sz=esz:=fun cD=>by
       simp only [Bool.or_eq_true] at fu
       rcases fu with hc | hc
       ·exact Nat.eq_of_beq_eq_true hc
       ·simp at hc; exact absurd hc cD
      have bK:(execOp a.eval o).run E.P w=.ok (.value (.slice (if cap=p then some ⟨b,o',none⟩ else some ⟨b,o'+p * esz,none⟩) (q - p) (cap - p))) w:=by
       simp only [execOp,ho,Instr.sliceAt,Sem.run_bind,run_underlying e2,Result.andThen_ok,Instr.slice,fY,Option.map_none,k1,run_sizeOf w f1,f2,Sem.run_pure,Option.map_some,cL]
      have vo:∀ b2 o2,Bz R (match k with | .nil=>LK.nil | .full=>(match h' with | none=>LK.full | some _=>LK.lQ) | _=>LK.lQ) b2 o2 (q - p) (cap - p):=by
       intro b2 o2
       cases k with
       | nil=>exact J3.elim
       | lQ=>trivial
       | own id=>trivial
       | bk id j=>trivial
       | full=>
        have hc:cap=es.length:=J3
        cases h' with
        | some _=>trivial
        | none=>
         have hq:q=es.length:=by
          unfold ES at hb
          simp only at hb
          split at hb
          ·cases hb
          ·injection hb with hb
           injection hb with _ hb
           injection hb with _ hb
           exact hb.symm
         show cap - p=q - p
         omega
      by_cases XZ:cap=p
      ·refine au h (c:=.slice (some ⟨b,o',none⟩) (q - p) (cap - p)) (by rw [bK,if_pos XZ]) ?_
       have he:eR p q es=[]:=List.eq_nil_of_length_eq_zero (by rw [pj k3]; omega)
       exact Rel.list (by rw [he]; exact .nil) (by rw [pj k3]) (by omega) (vo _ _)
      ·refine au h (c:=.slice (some ⟨b,o'+p * esz,none⟩) (q - p) (cap - p)) (by rw [bK,if_neg XZ]) ?_
       refine Rel.list ?_ (by rw [pj k3]) (by omega) (vo _ _)
       by_cases cD:es=[]
       ·subst cD
        simp [eR]
        exact .nil
       ·have:=YP cD
        subst this
        exact AE p (uf q hr)
    ·cases hv
   ·cases hv
  ·-- a heap slice
   rename_i elem esz ag pd z id off sz len cap hk hx
   rw [hx] at rx
   rw [hk] at e5
   obtain ⟨ie,ue,rfl,f1,f2,f3,f4,f5,f6⟩:=eF e5
   split at hv
   ·rename_i fu
    have fu:=Nat.eq_of_beq_eq_true fu
    subst fu
    split at hv
    ·rename_i c p q hb
     injection hv with hv
     injection hv with h1 h2
     subst h1; subst h2
     have eI:Rel R w (.kB id off sz len cap) (a.eval x):=rx
     generalize fY:a.eval x=xv at eI
     cases eI with
     | @kB _ _ _ _ _ b hbk iG=>
      obtain ⟨k1,k2,k3⟩:=eV (E:=E) true iG rl rh hb
      refine au h (c:=.slice (some ⟨b,bif Nat.beq cap p then off else off+p * sz,none⟩) (q - p) (cap - p)) ?_ (Rel.kB hbk (by omega))
      have hb:(bif Nat.beq cap p then off else off+p * sz)=if cap=p then off else off+p * sz:=by
       by_cases e:cap=p
       ·rw [if_pos e,e,show Nat.beq p p=true from Nat.beq_refl p]; rfl
       ·rw [if_neg e]
        cases hq:Nat.beq cap p with
        | true=>exact absurd (Nat.eq_of_beq_eq_true hq) e
        | false=>rfl
      rw [hb]
      simp only [execOp,ho,Instr.sliceAt,Sem.run_bind,run_underlying e2,Result.andThen_ok,Instr.slice,fY,Option.map_none,k1,run_sizeOf w f1,f2,Sem.run_pure,Option.map_some,cL]
      split <;> rfl
    ·cases hv
   ·cases hv
  ·-- a slice that grows
   rename_i elem esz ag pd z id f' off sz len hk hx
   rw [hx] at rx
   rw [hk] at e5
   obtain ⟨ie,ue,rfl,f1,f2,f3,f4,f5,f6⟩:=eF e5
   split at hv
   ·rename_i fu
    have fu:=Nat.eq_of_beq_eq_true fu
    subst fu
    split at hv
    ·rename_i c p q hb
     injection hv with hv
     injection hv with h1 h2
     subst h1; subst h2
     have eI:Rel R w (.dD id f' off sz len) (a.eval x):=rx
     generalize fY:a.eval x=xv at eI
     cases eI with
     | js h0 XY=>
      obtain ⟨k1,k2,k3⟩:=eV (E:=E) true (Nat.le_refl _) rl rh hb
      simp only [Nat.le_zero_eq] at k3
      subst k3
      have:p=0:=by omega
      subst this
      refine au h (c:=.slice none 0 0) ?_ ?_
      ·simp only [execOp,ho,Instr.sliceAt,Sem.run_bind,run_underlying e2,Result.andThen_ok,Instr.slice,fY,Option.map_none]
       simp [k1,run_sizeOf w f1]
      ·exact Rel.js h0 XY
     | @dD _ _ _ _ _ cap b o' ro bU eD iG=>
      obtain ⟨k1,k2,k3⟩:=eV (E:=E) true iG rl rh hb
      have bK:(execOp a.eval o).run E.P w=.ok (.value (.slice (if cap=p then some ⟨b,o',none⟩ else some ⟨b,o'+p * sz,none⟩) (q - p) (cap - p))) w:=by
       simp only [execOp,ho,Instr.sliceAt,Sem.run_bind,run_underlying e2,Result.andThen_ok,Instr.slice,fY,Option.map_none,k1,run_sizeOf w f1,f2,Sem.run_pure,Option.map_some,cL]
      have Ur:∀ o2,(o2=o'+p * sz∨cap=p)→Ic b o2 f' (off+p) sz (cap - p) ro:=fun o2 h2=>by
       cases ro with
       | none=>trivial
       | bN=>exact eD.elim
       | b9 _=>exact eD.elim
       | bk _=>exact eD.elim
       | tok f1 b1 c1=>
        refine ⟨eD.1,fun e=>?_⟩
        obtain ⟨q1,q2,q3⟩:=eD.2 e
        refine ⟨q1,by omega,?_⟩
        rcases h2 with h2 | h2
        ·rcases q3 with q3 | q3
         ·exact .inl (by rw [h2,q3,Nat.add_mul])
         ·exact .inr (by omega)
        ·exact .inr (by omega)
      by_cases XZ:cap=p
      ·exact au h (c:=.slice (some ⟨b,o',none⟩) (q - p) (cap - p)) (by rw [bK,if_pos XZ]) (Rel.dD bU (Ur _ (.inr XZ)) (by omega))
      ·exact au h (c:=.slice (some ⟨b,o'+p * sz,none⟩) (q - p) (cap - p)) (by rw [bK,if_neg XZ]) (Rel.dD bU (Ur _ (.inl rfl)) (by omega))
    ·cases hv
   ·cases hv
  ·-- an array that never changes again
   rename_i len esz ag cs hk hx
   rw [hx] at rx
   rw [hk] at e5
   obtain ⟨e,ie,ue,rfl,f1,f2,f3,f4⟩:=pc e5
   split at hv
   ·split at hv
    ·rename_i cN
     simp only [Bool.and_eq_true] at cN
     obtain ⟨⟨⟨c1,c2⟩,c3⟩,c4⟩:=cN
     injection hv with hv
     injection hv with _ h2
     subst h2
     have eI:Rel R w (.ep cs) (a.eval x):=rx
     generalize fY:a.eval x=xv at eI
     cases eI with
     | @ep _ b o' hr=>
     obtain ⟨k1,_,_⟩:=eV (E:=E) (w:=w) (R:=R) (β:=β) (l:=0) (h:=len) false (Nat.le_refl len) rl rh rfl
     refine au h (c:=.slice (some ⟨b,o',none⟩) len len) ?_ (Rel.list (GP c3 len hr (Nat.le_of_ble_eq_true c1) c4) (rb _ _ _ _).symm (Nat.le_refl _) rfl)
     simp only [execOp,ho,Instr.sliceAt,Sem.run_bind,run_underlying e2,Result.andThen_ok,fY,Instr.sureAddr,Option.map_none,k1,run_sizeOf w f1,f2,Sem.run_pure]
     by_cases xD:len=0
     ·subst xD
      simp
     ·simp [xD,cL]
    ·cases hv
   ·cases hv
  ·cases hv
 ·cases hv
theorem BI (h:bo E R w β s a) (t:TypeId) (ho:o.op=.makeMap t none):b7 E R w β s a o ((s.eL (.map [])).put o.dst (.v (.map s.G.length))):=by
 have jc:ic (R.add (.b9 w.heap.size)) (w.alloc (.map #[] 0)) (.map []) (.b9 w.heap.size):=⟨#[],0,heap_alloc_new w _,trivial,rfl,fun i e he=>by simp at he⟩
 refine ⟨_,.map (some w.heap.size),w.alloc (.map #[] 0),R.add (.b9 w.heap.size),β,?_,.inl rfl,(h.mD (.map #[] 0) (.map []) (.b9 w.heap.size) (by exact fun _ h=>h) jc).put o.dst (x:=.v (.map s.G.length)) (Rel.map (gS h _)),by rw [bc]; exact dh h _ _ (by exact fun _ h=>h)⟩
 simp only [execOp,ho,Instr.makeMap,Option.map_none,Sem.run_bind,run_newObj,Result.andThen_ok,Sem.run_pure]
 rfl
theorem rk (h:bo E R w β s a) (t:TypeId) (x y:Operand) (ho:o.op=.makeSlice t x y) {i:TI} (hi:E.ti t=some i) {k k':IntKind} {n m:Int} (hx:bM E s.ae x=.v (.int k n)) (hy:bM E s.ae y=.v (.int k' m))
  {elem esz pd:Nat} {ag:Bool} {z:AV} (hk:i.k=.sl elem esz ag pd (some z)) (hz:z.cells.length=esz) (Im:1≤esz) (sr:z.a6=true) (hc:0≤n∧n≤m∧m≤140737488355328∧m * pd≤140737488355328) :
  ∃ us,aQ R w (av (List.replicate m.toNat z)) us∧(∀ v∈us,v.oneCell'=true)∧(execOp a.eval o).run E.P w=.ok (.value (.slice (some ⟨w.heap.size,0,none⟩) n.toNat m.toNat)) (w.alloc (.cells ⟨us⟩ elem)):=by
 have rx:=aX h x
 have ry:=aX h y
 rw [hx] at rx
 rw [hy] at ry
 have eI:Rel R w (.int k n) (a.eval x):=rx
 have ra:Rel R w (.int k' m) (a.eval y):=ry
 generalize fY:a.eval x=xv at eI
 generalize YI:a.eval y=yv at ra
 cases eI
 cases ra
 obtain ⟨c1,c2,c3,c4⟩:=hc
 obtain ⟨ig,u,e1,e2,e3,e4,e5,e6⟩:=cn E hi
 rw [hk] at e5
 obtain ⟨ie,ue,rfl,f1,f2,f3,f4,f5,f6⟩:=eF e5
 obtain ⟨zc,rN,EF⟩:=dB f6
 have Tc:=EF R w
 obtain ⟨d1,d2⟩:=Rel.cells Tc sr
 have ql:zc.cells.size=esz:=by rw [← hz,d1.length]; simp
 obtain ⟨z1,z2⟩:=na Tc sr m.toNat
 have xC:((Array.range (m.toNat * esz)).map fun i=>zc.cells[i % zc.cells.size]!)=⟨(List.replicate m.toNat zc.cells.toList).flatten⟩:=by
  apply Array.ext'
  rw [← ql]
  exact ph zc.cells m.toNat
 have wn:IntKind.i64.wrap n=n:=IntWalk.i64_in n (by omega)
 have wm:IntKind.i64.wrap m=m:=IntWalk.i64_in m (by omega)
 have bK:(Instr.makeSlice t (.int k n) (.int k' m)).run E.P w=.ok (.slice (some ⟨w.heap.size,0,none⟩) n.toNat m.toNat) (w.alloc (.cells ⟨(List.replicate m.toNat zc.cells.toList).flatten⟩ elem)):=by
  have hby:(ie.bytes:Int) * m≤281474976710656:=by rw [f3,Int.mul_comm]; omega
  have YQ:¬ 281474976710656 < (ie.bytes:Int) * m:=by omega
  have h1:¬ m < 0:=by omega
  have h2:¬ n < 0:=by omega
  have h3:¬ m < n:=by omega
  have Us:(typeInfo elem).run E.P w=.ok ie w:=by simp [typeInfo,f1]
  by_cases h0:m.toNat * esz=0
  ·have hm0:m.toNat=0:=by
    rcases Nat.mul_eq_zero.1 h0 with h0 | h0 <;> omega
   have CM:∀ f:Nat→Value,Array.map f (Array.range 0)=#[]:=fun f=>by simp
   simp [Instr.makeSlice,run_underlying e2,asInt,asIntOf,Us,wn,wm,h1,h2,h3,YQ,run_sizeOf w f1,f2,hm0,newRow]
   rw [CM]
  ·simp [Instr.makeSlice,run_underlying e2,asInt,asIntOf,Us,wn,wm,h1,h2,h3,YQ,run_sizeOf w f1,f2,h0,ij w f1 rN,newRow]
   rw [← xC]
 refine ⟨_,z1,z2,?_⟩
 simp only [execOp,ho,fY,YI,Sem.run_bind,bK,Result.andThen_ok,Sem.run_pure]
theorem xG (h:bo E R w β s a) (t:TypeId) (x y:Operand) (ho:o.op=.makeSlice t x y) {i:TI} (hi:E.ti t=some i) {k k':IntKind} {n m:Int} (hx:bM E s.ae x=.v (.int k n)) (hy:bM E s.ae y=.v (.int k' m))
  {elem esz pd:Nat} {ag:Bool} {z:AV} (hk:i.k=.sl elem esz ag pd (some z)) (hz:z.cells.length=esz) (Im:1≤esz) (sr:z.a6=true) (hc:0≤n∧n≤m∧m≤140737488355328∧m * pd≤140737488355328) :
  b7 E R w β s a o ((s.eL (.row (av (List.replicate m.toNat z)) elem)).put o.dst (.v (.kB s.G.length 0 esz n.toNat m.toNat))):=by
 obtain ⟨us,z1,z2,bK⟩:=rk h t x y ho hi hx hy hk hz Im sr hc
 have e:=iz (R:=R) (w:=w) h.g.wf (.cells ⟨us⟩ elem) (.b9 w.heap.size)
 have jc:ic (R.add (.b9 w.heap.size)) (w.alloc (.cells ⟨us⟩ elem)) (.row (av (List.replicate m.toNat z)) elem) (.b9 w.heap.size):=
  ⟨_,heap_alloc_new w _,z1.mono e,z2,fun o' hi=>by have:=h.g.wf _ _ hi; omega⟩
 exact ⟨_,.slice (some ⟨w.heap.size,0,none⟩) n.toNat m.toNat,_,R.add (.b9 w.heap.size),β,bK,.inl rfl,(h.mD _ _ (.b9 w.heap.size) (by exact fun _ h=>h) jc).put o.dst (x:=.v (.kB s.G.length 0 esz n.toNat m.toNat)) (Rel.kB (gS h _) (by omega)),by rw [bc]; exact dh h _ _ (by exact fun _ h=>h)⟩
end ops
end Go.Am
namespace Go.Am
open Go
section ops
variable {E:Env} {R:an} {w:World} {β:Nat→Nat} {s:St} {a:Act} {o:Oper}
theorem lf (x:Array Operand) (f:Operand→Value):x.map f=⟨x.toList.map f⟩:=Array.ext' (by simp)
theorem fg {b:Builtin} {args:Array Operand} {tys:Array TypeId} (ho:o.op=.call { callee:=.builtin b,args:=args,argTypes:=tys }) (vs:List Value) (hv:args.toList.map a.eval=vs) :
  (execOp a.eval o).run E.P w=(builtin b tys o.type (args.map fun | .const _=>true | _=>false) ⟨vs⟩).run E.P w:=by
 simp only [execOp,ho,resolve,Sem.run_bind,Sem.run_pure,Result.andThen_ok,invoke,lf args a.eval,hv]
 rfl
theorem dP.length:∀ {l:List (AV × AV)} {es:List MapEntry},dP R w l es→l.length=es.length
 | [],[],_=>rfl
 | _ :: _,_ :: _,h=>by simp [dP.length h.2.2]
 | [],_ :: _,h=>h.elim
 | _ :: _,[],h=>h.elim
theorem J9 (h:bo E R w β s a) {args:Array Operand} {tys:List TypeId} (ho:o.op=.call { callee:=.builtin .len,args:=args,argTypes:=⟨tys⟩ }) {l:List AV} (hl:mP E s.ae args.toList=some l) {s':St} (hs:bV E s o.dst .len l tys=some (true,s')) :
  b7 E R w β s a o s':=by
 have hr:=gT h hl
 generalize hv:args.toList.map a.eval=vs at hr
 have hx:=fg (E:=E) (w:=w) ho vs hv
 unfold bV at hs
 split at hs <;> first | (rename_i h1; cases h1; done) | skip
 ·rename_i x
  cases hr with
  | cons h0 h1=>
  cases h1
  split at hs
  ·rename_i t tl
   split at hs
   ·rename_i i hi
    obtain ⟨ig,u,e1,e2,e3,e4,e5,e6⟩:=cn E hi
    split at hs
    ·rename_i bs hk
     cases hs
     cases h0
     rw [hk] at e5
     have:=k9 e5
     subst this
     refine au h (c:=.int .i64 bs.length) ?_ (Rel.int _ _)
     rw [hx]
     simp [builtin,Builtin.len_,run_underlying e2,goInt,size_bytes]
    ·rename_i kk sz es hk
     cases hs
     rw [hk] at e5
     obtain ⟨ie,ue,rfl,_⟩:=eF e5
     refine au h (c:=.int .i64 es.length) ?_ (Rel.int _ _)
     rw [hx]
     cases h0 with
     | km=>simp [builtin,Builtin.len_,run_underlying e2,goInt]
     | jA=>simp [builtin,Builtin.len_,run_underlying e2,goInt]
     | nL=>simp [builtin,Builtin.len_,run_underlying e2,goInt]
     | mV=>simp [builtin,Builtin.len_,run_underlying e2,goInt]
     | mB=>simp [builtin,Builtin.len_,run_underlying e2,goInt]
     | list _ hlen _ _=>subst hlen; simp [builtin,Builtin.len_,run_underlying e2,goInt]
    ·rename_i id off sz len cap hk
     cases hs
     rw [hk] at e5
     obtain ⟨ie,ue,rfl,_⟩:=eF e5
     refine au h (c:=.int .i64 len) ?_ (Rel.int _ _)
     rw [hx]
     cases h0
     simp [builtin,Builtin.len_,run_underlying e2,goInt]
    ·rename_i id f' off sz len hk
     cases hs
     rw [hk] at e5
     obtain ⟨ie,ue,rfl,_⟩:=eF e5
     refine au h (c:=.int .i64 len) ?_ (Rel.int _ _)
     rw [hx]
     cases h0 <;> simp [builtin,Builtin.len_,run_underlying e2,goInt]
    ·rename_i n esz ag hk
     cases hs
     rw [hk] at e5
     obtain ⟨e,ie,ue,rfl,_⟩:=pc e5
     refine au h (c:=.int .i64 n) ?_ (Rel.int _ _)
     rw [hx]
     simp [builtin,Builtin.len_,run_underlying e2,goInt]
    ·rename_i hk
     cases hs
     rw [hk] at e5
     obtain ⟨rfl,_⟩:=mX e5
     refine au h (c:=.int .i64 0) ?_ (Rel.int _ _)
     rw [hx]
     cases h0
     simp [builtin,Builtin.len_,run_underlying e2,goInt]
    ·rename_i id hk
     split at hs
     ·rename_i es hg
      cases hs
      rw [hk] at e5
      obtain ⟨rfl,_⟩:=mX e5
      cases h0 with
      | @map _ b hb=>
      obtain ⟨aC,clock,g1,g2,g3⟩:=h.g.obj id _ _ hg hb
      refine au h (c:=.int .i64 es.length) ?_ (Rel.int _ _)
      rw [hx]
      have jc:(getObj b).run E.P w=.ok (.map aC clock) w:=by simp [getObj,Sem.run,g1]
      simp [builtin,Builtin.len_,run_underlying e2,goInt,jc,g2.length]
     ·cases hs
    ·cases hs
   ·cases hs
  ·cases hs
 ·cases hs
theorem GQ {b:Bool}:∀ {l:List AV} {x v:AV} {c:Value} {cs:List Value},Rel R w x c→aQ R w l cs→H8 x l=some v→∃ c',(cs.foldlM Builtin.max2 c).run E.P w=.ok c' w∧Rel R w v c'
 | [],x,v,c,cs,hr,hl,hv=>by
  cases hl
  simp only [H8] at hv
  cases hv
  exact ⟨c,rfl,hr⟩
 | y :: l,x,v,c,cs,hr,hl,hv=>by
  cases hl with
  | cons hy hl=>
  unfold H8 at hv
  split at hv
  ·rename_i kR; cases kR
  ·rename_i k n k' m l' kR
   cases kR
   split at hv
   ·rename_i hk
    subst hk
    cases hr
    cases hy
    obtain ⟨c',h1,h2⟩:=GQ (b:=b) (Rel.int k (if m > n then m else n)) hl hv
    refine ⟨c',?_,h2⟩
    simp only [List.foldlM_cons,Sem.run_bind,Builtin.max2,Sem.run_pure,Result.andThen_ok]
    exact h1
   ·cases hv
  ·cases hv
theorem BJ {b:Bool}:∀ {l:List AV} {x v:AV} {c:Value} {cs:List Value},Rel R w x c→aQ R w l cs→EU x l=some v→∃ c',(cs.foldlM Builtin.min2 c).run E.P w=.ok c' w∧Rel R w v c'
 | [],x,v,c,cs,hr,hl,hv=>by
  cases hl
  simp only [EU] at hv
  cases hv
  exact ⟨c,rfl,hr⟩
 | y :: l,x,v,c,cs,hr,hl,hv=>by
  cases hl with
  | cons hy hl=>
  unfold EU at hv
  split at hv
  ·rename_i kR; cases kR
  ·rename_i k n k' m l' kR
   cases kR
   split at hv
   ·rename_i hk
    subst hk
    cases hr
    cases hy
    obtain ⟨c',h1,h2⟩:=BJ (b:=b) (Rel.int k (if m < n then m else n)) hl hv
    refine ⟨c',?_,h2⟩
    simp only [List.foldlM_cons,Sem.run_bind,Builtin.min2,Sem.run_pure,Result.andThen_ok]
    exact h1
   ·cases hv
  ·rename_i n m l' kR
   cases kR
   cases hr
   cases hy
   obtain ⟨c',h1,h2⟩:=BJ (b:=b) (Rel.str (bif Op.bytesLess n m || n == m then n else m)) hl hv
   refine ⟨c',?_,h2⟩
   have e:(Builtin.min2 (.string ⟨⟨n⟩⟩) (.string ⟨⟨m⟩⟩)).run E.P w=.ok (.string ⟨⟨bif Op.bytesLess n m || n == m then n else m⟩⟩) w:=by
    simp only [Builtin.min2,Op.stringOp,Sem.run_bind,Sem.run_pure,Result.andThen_ok]
    show Result.andThen ((asBool _).run E.P w) _=_
    cases hb:(Op.bytesLess n m || n == m) <;> simp_all [asBool]
   simp only [List.foldlM_cons,Sem.run_bind,e,Result.andThen_ok]
   exact h1
  ·cases hv
theorem Ka (h:bo E R w β s a) {args:Array Operand} {tys:Array TypeId} (ho:o.op=.call { callee:=.builtin .max,args:=args,argTypes:=tys }) {x v:AV} {l:List AV} (hl:mP E s.ae args.toList=some (x :: l)) (hm:H8 x l=some v) :
  b7 E R w β s a o (s.put o.dst (.v v)):=by
 have hr:=gT h hl
 generalize hv:args.toList.map a.eval=vs at hr
 have hx:=fg (E:=E) (w:=w) ho vs hv
 cases hr with
 | cons h0 h1=>
 obtain ⟨c',k1,k2⟩:=GQ (E:=E) (b:=true) h0 h1 hm
 refine au h (c:=c') ?_ k2
 rw [hx]
 simp [builtin,Builtin.max_,k1]
theorem Kb (h:bo E R w β s a) {args:Array Operand} {tys:Array TypeId} (ho:o.op=.call { callee:=.builtin .min,args:=args,argTypes:=tys }) {x v:AV} {l:List AV} (hl:mP E s.ae args.toList=some (x :: l)) (hm:EU x l=some v) :
  b7 E R w β s a o (s.put o.dst (.v v)):=by
 have hr:=gT h hl
 generalize hv:args.toList.map a.eval=vs at hr
 have hx:=fg (E:=E) (w:=w) ho vs hv
 cases hr with
 | cons h0 h1=>
 obtain ⟨c',k1,k2⟩:=BJ (E:=E) (b:=true) h0 h1 hm
 refine au h (c:=c') ?_ k2
 rw [hx]
 simp [builtin,Builtin.min_,k1]
end ops
end Go.Am
namespace Go.Am
open Go
section ops
variable {E:Env} {R:an} {w:World} {β:Nat→Nat} {s:St} {a:Act} {o:Oper}
def an.upto (R:an) (g n:Nat) (obj:List RO):an:=⟨fun b o=>R.I b o∨(b=g∧o < n),obj⟩
theorem aN {l:List RO} {id i:Nat} {x r y:RO} (ahb:nth l id=some y) (h:nth (aF l id x) i=some r):(i=id∧r=x)∨(i≠id∧nth l i=some r):=by
 rcases dE h with ⟨rfl,rfl,_⟩ | ⟨cD,h⟩
 ·exact .inl ⟨rfl,rfl⟩
 ·exact .inr ⟨Ne.symm cD,h⟩
theorem E9 (wf:∀ b o,R.I b o→b < w.heap.size) (x:Obj) (n:Nat) (ro:RO):Ext R w (R.upto w.heap.size n (R.obj++[ro])) (w.drew.alloc x):=
 ⟨fun _ _ h=>.inl h,fun b o h=>ca (heap_alloc_old w.drew x b (wf b o h)) o,fun _ r h=>⟨r,dG h,cJ.refl r⟩,.old fun b hb=>heap_alloc_old w.drew x b hb⟩
theorem Fa (wf:∀ b o,R.I b o→b < w.heap.size) (x:Obj) {n id m:Nat} {r0:RO} (hid:nth R.obj id=some r0) (b' c':Nat) (cu:cJ r0 (.tok m b' c')):Ext R w (R.upto w.heap.size n (aF R.obj id (.tok m b' c'))) (w.drew.alloc x):=
 ⟨fun _ _ h=>.inl h,fun b o h=>ca (heap_alloc_old w.drew x b (wf b o h)) o,fun i r h=>by
  by_cases e:id=i
  ·subst e
   rw [hid] at h
   cases h
   exact ⟨_,aO hid,cu⟩
  ·exact ⟨r,by rw [an.upto,bP e]; exact h,cJ.refl r⟩,.old fun b hb=>heap_alloc_old w.drew x b hb⟩
theorem bo.Ut (h:bo E R w β s a) {cur:Array Value} {elem:TypeId} {n sz cap:Nat} (hn:n≤cap) (hm:cap≤maxLen) (hs:cur.size=cap * sz) :
  bo E (R.upto w.heap.size (n * sz) (R.obj++[.tok n w.heap.size cap])) (w.drew.alloc (.cells cur elem)) β (s.eL (.tok n sz elem)) a ∧
  Step R w β s.boxes (R.upto w.heap.size (n * sz) (R.obj++[.tok n w.heap.size cap])) (w.drew.alloc (.cells cur elem)) β s.boxes:=by
 have e:=E9 (R:=R) (w:=w) h.g.wf (.cells cur elem) (n * sz) (.tok n w.heap.size cap)
 have old:∀ b,b < w.heap.size→(w.drew.alloc (.cells cur elem)).heap[b]?=w.heap[b]?:=fun b hb=>heap_alloc_old w.drew _ b hb
 have new:(w.drew.alloc (.cells cur elem)).heap[w.heap.size]?=some (.cells cur elem (0,0)):=heap_alloc_new w.drew _
 have hI:∀ b o,b < w.heap.size→(R.upto w.heap.size (n * sz) (R.obj++[.tok n w.heap.size cap])).I b o→R.I b o:=fun b o hb hi=>by
  rcases hi with hi | ⟨hi,_⟩
  ·exact hi
  ·omega
 refine ⟨⟨⟨by simp [St.eL,an.upto,h.g.len],fun id g r h1 h2=>?_,fun i j ri rj b h1 h2 b1 b2=>?_,fun b o hi=>?_,fun g cs hg=>(h.g.cm g cs hg).mono e,by first | exact h.g.lo | exact Nat.le_succ_of_le h.g.lo⟩,?_,h.t.mono e,h.n,h.d.mono e⟩,?_⟩
 ·rcases aA h2 with h2 | ⟨h3,rfl⟩
  ·have cu:=bR h2
   rw [h.g.len] at cu
   rcases aA h1 with h1 | ⟨h4,_⟩
   ·exact (h.g.obj id g r h1 h2).mono e (fun b hb=>old b (h.g.b8 ⟨id,r,h2,hb⟩)) (fun b o hb=>hI b o (h.g.b8 ⟨id,r,h2,hb⟩))
   ·omega
  ·rcases aA h1 with h1 | ⟨h4,rfl⟩
   ·have:=bR h1
    rw [h3,h.g.len] at this
    omega
   ·refine ⟨rfl,cur,new,hn,hm,hs,fun o' oS hi=>?_⟩
    rcases hi with hi | ⟨_,hi⟩
    ·have:=h.g.wf _ _ hi
     omega
    ·omega
 ·rcases aA h1 with g1 | ⟨h3,e1⟩
  ·rcases aA h2 with g2 | ⟨h4,e2⟩
   ·exact h.g.inj i j ri rj b g1 g2 b1 b2
   ·have:=h.g.b8 ⟨i,ri,g1,b1⟩
    rw [e2] at b2
    simp [RO.has] at b2
    omega
  ·rcases aA h2 with g2 | ⟨h4,e2⟩
   ·have:=h.g.b8 ⟨j,rj,g2,b2⟩
    rw [e1] at b1
    simp [RO.has] at b1
    omega
   ·omega
 ·rcases hi with hi | ⟨rfl,_⟩
  ·have:=h.g.wf b o hi
   simp
   omega
  ·simp
 ·refine h.b.bJ e (fun k cs hk=>old _ (h.fa (.inr ⟨k,cs,hk,rfl⟩))) (fun k cs o hk=>hI _ o (h.fa (.inr ⟨k,cs,hk,rfl⟩))) (fun k cs hk hl=>?_)
  rcases mW (R:=R) (ro:=.tok n w.heap.size cap) hl with hl | hl
  ·exact hl
  ·have:=h.fa (.inr ⟨k,cs,hk,rfl⟩)
   simp [RO.has] at hl
   omega
 ·refine ⟨e,rfl,rfl,rfl,by simp,fun b hb _=>old b hb,fun b hb ho=>?_,fun b o hi hb _=>hI b o hb hi⟩
  rcases ho with ho | ho
  ·rcases mW (R:=R) (ro:=.tok n w.heap.size cap) ho with ho | ho
   ·exact .inl ho
   ·simp [RO.has] at ho
    omega
  ·exact .inr ho
theorem CO (wf:∀ b o,R.I b o→b < w.heap.size) (x:Obj) (n:Nat) (ro:RO):Ext R w (R.upto w.heap.size n (R.obj++[ro])) (w.alloc x):=
 ⟨fun _ _ h=>.inl h,fun b o h=>ca (heap_alloc_old w x b (wf b o h)) o,fun _ r h=>⟨r,dG h,cJ.refl r⟩,.old fun b hb=>heap_alloc_old w x b hb⟩
theorem bo.Oy (h:bo E R w β s a) {cur:Array Value} {elem:TypeId} {n sz cap:Nat} (hn:n≤cap) (hm:cap≤maxLen) (hs:cur.size=cap * sz) :
  bo E (R.upto w.heap.size (n * sz) (R.obj++[.tok n w.heap.size cap])) (w.alloc (.cells cur elem)) β (s.eL (.tok n sz elem)) a ∧
  Step R w β s.boxes (R.upto w.heap.size (n * sz) (R.obj++[.tok n w.heap.size cap])) (w.alloc (.cells cur elem)) β s.boxes:=by
 have e:=CO (R:=R) (w:=w) h.g.wf (.cells cur elem) (n * sz) (.tok n w.heap.size cap)
 have old:∀ b,b < w.heap.size→(w.alloc (.cells cur elem)).heap[b]?=w.heap[b]?:=fun b hb=>heap_alloc_old w _ b hb
 have new:(w.alloc (.cells cur elem)).heap[w.heap.size]?=some (.cells cur elem (0,0)):=heap_alloc_new w _
 have hI:∀ b o,b < w.heap.size→(R.upto w.heap.size (n * sz) (R.obj++[.tok n w.heap.size cap])).I b o→R.I b o:=fun b o hb hi=>by
  rcases hi with hi | ⟨hi,_⟩
  ·exact hi
  ·omega
 refine ⟨⟨⟨by simp [St.eL,an.upto,h.g.len],fun id g r h1 h2=>?_,fun i j ri rj b h1 h2 b1 b2=>?_,fun b o hi=>?_,fun g cs hg=>(h.g.cm g cs hg).mono e,by first | exact h.g.lo | exact Nat.le_succ_of_le h.g.lo⟩,?_,h.t.mono e,h.n,h.d.mono e⟩,?_⟩
 ·rcases aA h2 with h2 | ⟨h3,rfl⟩
  ·have cu:=bR h2
   rw [h.g.len] at cu
   rcases aA h1 with h1 | ⟨h4,_⟩
   ·exact (h.g.obj id g r h1 h2).mono e (fun b hb=>old b (h.g.b8 ⟨id,r,h2,hb⟩)) (fun b o hb=>hI b o (h.g.b8 ⟨id,r,h2,hb⟩))
   ·omega
  ·rcases aA h1 with h1 | ⟨h4,rfl⟩
   ·have:=bR h1
    rw [h3,h.g.len] at this
    omega
   ·refine ⟨rfl,cur,new,hn,hm,hs,fun o' oS hi=>?_⟩
    rcases hi with hi | ⟨_,hi⟩
    ·have:=h.g.wf _ _ hi
     omega
    ·omega
 ·rcases aA h1 with g1 | ⟨h3,e1⟩
  ·rcases aA h2 with g2 | ⟨h4,e2⟩
   ·exact h.g.inj i j ri rj b g1 g2 b1 b2
   ·have:=h.g.b8 ⟨i,ri,g1,b1⟩
    rw [e2] at b2
    simp [RO.has] at b2
    omega
  ·rcases aA h2 with g2 | ⟨h4,e2⟩
   ·have:=h.g.b8 ⟨j,rj,g2,b2⟩
    rw [e1] at b1
    simp [RO.has] at b1
    omega
   ·omega
 ·rcases hi with hi | ⟨rfl,_⟩
  ·have:=h.g.wf b o hi
   simp
   omega
  ·simp
 ·refine h.b.bJ e (fun k cs hk=>old _ (h.fa (.inr ⟨k,cs,hk,rfl⟩))) (fun k cs o hk=>hI _ o (h.fa (.inr ⟨k,cs,hk,rfl⟩))) (fun k cs hk hl=>?_)
  rcases mW (R:=R) (ro:=.tok n w.heap.size cap) hl with hl | hl
  ·exact hl
  ·have:=h.fa (.inr ⟨k,cs,hk,rfl⟩)
   simp [RO.has] at hl
   omega
 ·refine ⟨e,rfl,rfl,rfl,by simp,fun b hb _=>old b hb,fun b hb ho=>?_,fun b o hi hb _=>hI b o hb hi⟩
  rcases ho with ho | ho
  ·rcases mW (R:=R) (ro:=.tok n w.heap.size cap) ho with ho | ho
   ·exact .inl ho
   ·simp [RO.has] at ho
    omega
  ·exact .inr ho
theorem uk (h:bo E R w β s a) (t:TypeId) (len:Nat) (parts:Array (Nat × Operand)) (ho:o.op=.buildSlice t len parts) {k:LK} {esz:Nat} {es:List AV} (hv:cj E s t len parts.toList=some (.list k esz es)) {i:TI} (hi:E.ti t=some i) {elem bQ pd:Nat} {ag:Bool} {z:Option AV} (hk:i.k=.sl elem bQ ag pd z) (hm:len≤65536) :
  b7 E R w β s a o ((s.eL (.tok len esz elem)).put o.dst (.v (.list (.own s.G.length) esz es))):=by
 obtain ⟨es',Uo,us,YR,YO,bK,g2,hlen,u2,u3,i',ag',YN,z',ua,jg⟩:=jh h t len parts ho hv
 cases YO
 rw [hi] at ua
 cases ua
 rw [hk] at jg
 cases jg
 have YS:us.length=len * esz:=by rw [← u2.length,eJ g2,hlen]
 obtain ⟨r1,r2⟩:=h.Oy (cur:=⟨us⟩) (elem:=elem) (n:=len) (sz:=esz) (cap:=len) (Nat.le_refl _) (by simp [maxLen]; omega) (by simpa using YS)
 refine ⟨_,.slice (some ⟨w.heap.size,0,none⟩) len len,_,_,β,bK,.inl rfl,r1.put o.dst (x:=.v (.list (.own s.G.length) esz es)) ?_,by rw [bc]; exact r2⟩
 refine Rel.list (mZ g2 (eN.make (u2.mono r2.ext) u3 (fun j x hx=>?_) (fun j hj=>.inr ⟨rfl,?_⟩))) hlen.symm (Nat.le_refl _) ⟨.tok len w.heap.size len,gS h _,?_⟩
 ·rw [jW (heap_alloc_new w _)]
  simpa using hx
 ·rw [eJ g2,hlen] at hj
  omega
 ·exact ⟨Nat.le_refl _,fun _=>⟨rfl,rfl,rfl⟩⟩
theorem bo.Kc (h:bo E R w β s a) {cur:Array Value} {elem e0:TypeId} {n sz cap id f:Nat} {r0:RO} (hg:nth s.G id=some (.tok f sz e0)) (hid:nth R.obj id=some r0) (hf:∀ b c,cJ r0 (.tok n b c)) (hn:n≤cap) (hm:cap≤maxLen) (hs:cur.size=cap * sz) :
  bo E (R.upto w.heap.size (n * sz) (aF R.obj id (.tok n w.heap.size cap))) (w.drew.alloc (.cells cur elem)) β (s.cg (aF s.G id (.tok n sz elem))) a ∧
  Step R w β s.boxes (R.upto w.heap.size (n * sz) (aF R.obj id (.tok n w.heap.size cap))) (w.drew.alloc (.cells cur elem)) β s.boxes:=by
 have e:=Fa (R:=R) (w:=w) (n:=n * sz) h.g.wf (.cells cur elem) hid w.heap.size cap (hf _ _)
 have old:∀ b,b < w.heap.size→(w.drew.alloc (.cells cur elem)).heap[b]?=w.heap[b]?:=fun b hb=>heap_alloc_old w.drew _ b hb
 have new:(w.drew.alloc (.cells cur elem)).heap[w.heap.size]?=some (.cells cur elem (0,0)):=heap_alloc_new w.drew _
 have hI:∀ b o,b < w.heap.size→(R.upto w.heap.size (n * sz) (aF R.obj id (.tok n w.heap.size cap))).I b o→R.I b o:=fun b o hb hi=>by
  rcases hi with hi | ⟨hi,_⟩
  ·exact hi
  ·omega
 have live:∀ b,b < w.heap.size→Live (R.upto w.heap.size (n * sz) (aF R.obj id (.tok n w.heap.size cap))) b→Live R b:=fun b hb hl=>by
  obtain ⟨i,r,h1,h2⟩:=hl
  rcases aN hid h1 with ⟨_,rfl⟩ | ⟨_,h1⟩
  ·simp [RO.has] at h2
   omega
  ·exact ⟨i,r,h1,h2⟩
 refine ⟨⟨⟨by simp [St.cg,an.upto,h.g.len],fun i gg r h1 h2=>?_,fun i j ri rj b h1 h2 b1 b2=>?_,fun b o hi=>?_,fun g cs hg=>(h.g.cm g cs hg).mono e,by first | exact h.g.lo | exact Nat.le_succ_of_le h.g.lo⟩,?_,h.t.mono e,h.n,h.d.mono e⟩,?_⟩
 ·rcases aN hid h2 with ⟨rfl,rfl⟩ | ⟨cD,h2⟩
  ·simp only [St.cg] at h1
   rw [aO hg] at h1
   cases h1
   refine ⟨rfl,cur,new,hn,hm,hs,fun o' oS hi=>?_⟩
   rcases hi with hi | ⟨_,hi⟩
   ·have:=h.g.wf _ _ hi
    omega
   ·omega
  ·simp only [St.cg] at h1
   rw [bP (Ne.symm cD)] at h1
   exact (h.g.obj i gg r h1 h2).mono e (fun b hb=>old b (h.g.b8 ⟨i,r,h2,hb⟩)) (fun b o hb=>hI b o (h.g.b8 ⟨i,r,h2,hb⟩))
 ·rcases aN hid h1 with ⟨g3,e1⟩ | ⟨g3,g1⟩
  ·rcases aN hid h2 with ⟨g4,e2⟩ | ⟨g4,g2⟩
   ·omega
   ·have:=h.g.b8 ⟨j,rj,g2,b2⟩
    rw [e1] at b1
    simp [RO.has] at b1
    omega
  ·rcases aN hid h2 with ⟨g4,e2⟩ | ⟨g4,g2⟩
   ·have:=h.g.b8 ⟨i,ri,g1,b1⟩
    rw [e2] at b2
    simp [RO.has] at b2
    omega
   ·exact h.g.inj i j ri rj b g1 g2 b1 b2
 ·rcases hi with hi | ⟨rfl,_⟩
  ·have:=h.g.wf b o hi
   simp
   omega
  ·simp
 ·exact h.b.bJ e (fun k cs hk=>old _ (h.fa (.inr ⟨k,cs,hk,rfl⟩))) (fun k cs o hk=>hI _ o (h.fa (.inr ⟨k,cs,hk,rfl⟩))) (fun k cs hk hl=>live _ (h.fa (.inr ⟨k,cs,hk,rfl⟩)) hl)
 ·refine ⟨e,rfl,rfl,rfl,by simp,fun b hb _=>old b hb,fun b hb ho=>?_,fun b o hi hb _=>hI b o hb hi⟩
  rcases ho with ho | ho
  ·exact .inl (live b hb ho)
  ·exact .inr ho
theorem bo.Oz (h:bo E R w β s a) {cur:Array Value} {news:List Value} {elem:TypeId} {n sz id f g c:Nat} (hg:nth s.G id=some (.tok f sz elem)) (hid:nth R.obj id=some (.tok f g c)) (hf:f < n) (hn:n≤c)
  (jt:w.heap[g]?=some (.cells cur elem (0,0))) (hs:cur.size=c * sz) (hm:c≤maxLen) (hl:f * sz+news.length=n * sz) :
  Ext R w (R.upto g (n * sz) (aF R.obj id (.tok n g c))) (w.setRow g (cur.toList.take (f * sz)++news++cur.toList.drop (f * sz+news.length)).toArray) ∧
  bo E (R.upto g (n * sz) (aF R.obj id (.tok n g c))) (w.setRow g (cur.toList.take (f * sz)++news++cur.toList.drop (f * sz+news.length)).toArray) β (s.cg (aF s.G id (.tok n sz elem))) a ∧
  Step R w β s.boxes (R.upto g (n * sz) (aF R.obj id (.tok n g c))) (w.setRow g (cur.toList.take (f * sz)++news++cur.toList.drop (f * sz+news.length)).toArray) β s.boxes:=by
 obtain ⟨_,CP,Td,_,_,_,jX⟩:=h.g.obj id _ _ hg hid
 rw [jt] at Td
 cases Td
 have hle:n * sz≤c * sz:=Nat.mul_le_mul_right _ hn
 generalize pn:(cur.toList.take (f * sz)++news++cur.toList.drop (f * sz+news.length)).toArray=cur2
 have old:∀ b,b≠g→(w.setRow g cur2).heap[b]?=w.heap[b]?:=fun b hb=>setRow_other w g b cur2 hb
 have new:(w.setRow g cur2).heap[g]?=some (.cells cur2 elem (0,0)):=setRow_heap w g cur cur2 elem (0,0) jt
 have hlen:f * sz≤cur.toList.length:=by simp; omega
 have fu:cur2.size=c * sz:=by
  rw [← pn]
  simp
  omega
 have rO:Live R g:=⟨id,_,hid,rfl⟩
 have e:Ext R w (R.upto g (n * sz) (aF R.obj id (.tok n g c))) (w.setRow g cur2):=by
  refine ⟨fun _ _ hi=>.inl hi,fun b o hi=>?_,fun i r hr=>?_,fun b r hb=>⟨r,(old b fun e=>by subst e; rw [jt] at hb; cases hb).trans hb,rfl,rfl,rfl,rfl,rfl⟩⟩
  ·by_cases hb:b=g
   ·subst hb
    have ho:o < f * sz:=Nat.lt_of_not_le fun hle=>jX o hle hi
    simp only [World.cell?,new,jt]
    have:cur2[o]?=cur[o]?:=by
     rw [← pn,List.append_assoc]
     simp only [List.getElem?_toArray]
     rw [List.getElem?_append_left (by simp; omega),List.getElem?_take,if_pos ho,Array.getElem?_toList]
    simp [this]
   ·exact ca (old b hb) o
  ·by_cases ei:id=i
   ·subst ei
    rw [hid] at hr
    cases hr
    exact ⟨_,aO hid,by omega,fun e=>by omega⟩
   ·exact ⟨r,by rw [an.upto,bP ei]; exact hr,cJ.refl r⟩
 have hI:∀ b o,b≠g→(R.upto g (n * sz) (aF R.obj id (.tok n g c))).I b o→R.I b o:=fun b o hb hi=>by
  rcases hi with hi | ⟨hi,_⟩
  ·exact hi
  ·exact absurd hi hb
 have live:∀ b,Live (R.upto g (n * sz) (aF R.obj id (.tok n g c))) b→Live R b:=fun b hl=>by
  obtain ⟨i,r,h1,h2⟩:=hl
  rcases aN hid h1 with ⟨_,rfl⟩ | ⟨_,h1⟩
  ·exact ⟨id,_,hid,h2⟩
  ·exact ⟨i,r,h1,h2⟩
 have rP:∀ k cs,dO s.boxes k=some cs→β k≠g:=fun k cs hk eq=>(h.b.box k cs hk).2.2 (eq ▸ rO)
 refine ⟨e,⟨⟨by simp [St.cg,an.upto,h.g.len],fun i gg r h1 h2=>?_,fun i j ri rj b h1 h2 b1 b2=>?_,fun b o hi=>?_,fun g cs hg=>(h.g.cm g cs hg).mono e,by first | exact h.g.lo | exact Nat.le_succ_of_le h.g.lo⟩,?_,h.t.mono e,h.n,h.d.mono e⟩,?_⟩
 ·rcases aN hid h2 with ⟨rfl,rfl⟩ | ⟨cD,h2⟩
  ·simp only [St.cg] at h1
   rw [aO hg] at h1
   cases h1
   refine ⟨rfl,cur2,new,hn,hm,fu,fun o' oS hi=>?_⟩
   rcases hi with hi | ⟨_,hi⟩
   ·exact jX o' (Nat.le_trans (Nat.mul_le_mul_right _ (Nat.le_of_lt hf)) oS) hi
   ·omega
  ·simp only [St.cg] at h1
   rw [bP (Ne.symm cD)] at h1
   have Uu:∀ b,r.has b→b≠g:=fun b hb eq=>cD (h.g.inj i id _ _ b h2 hid hb (by rw [eq]; rfl))
   exact (h.g.obj i gg r h1 h2).mono e (fun b hb=>old b (Uu b hb)) (fun b o hb=>hI b o (Uu b hb))
 ·rcases aN hid h1 with ⟨g3,e1⟩ | ⟨g3,g1⟩
  ·rcases aN hid h2 with ⟨g4,e2⟩ | ⟨g4,g2⟩
   ·omega
   ·rw [e1] at b1
    exact g3.trans (h.g.inj id j _ _ b hid g2 b1 b2)
  ·rcases aN hid h2 with ⟨g4,e2⟩ | ⟨g4,g2⟩
   ·rw [e2] at b2
    exact (h.g.inj i id _ _ b g1 hid b1 b2).trans g4.symm
   ·exact h.g.inj i j ri rj b g1 g2 b1 b2
 ·rcases hi with hi | ⟨rfl,_⟩
  ·have:=h.g.wf b o hi
   simpa using this
  ·have:=bn jt
   simpa using this
 ·exact h.b.bJ e (fun k cs hk=>old _ (rP k cs hk)) (fun k cs o hk=>hI _ o (rP k cs hk)) (fun k cs hk hl=>live _ hl)
 ·refine ⟨e,rfl,rfl,rfl,by simp,fun b hb ul=>old b (fun eq=>ul (.inl (eq ▸ rO))),fun b hb ho=>?_,fun b o hi hb ul=>hI b o (fun eq=>ul (.inl (eq ▸ rO))) hi⟩
  rcases ho with ho | ho
  ·exact .inl (live b ho)
  ·exact .inr ho
structure One (w w':World) (x:Obj):Prop where
 old:∀ b,b < w.heap.size→w'.heap[b]?=w.heap[b]?
 new:w'.heap[w.heap.size]?=some x
 size:w'.heap.size=w.heap.size+1
 os:w'.os=w.os
 tape:w'.tape=w.tape
 output:w'.output=w.output
 drawn:w.drawn≤w'.drawn
theorem One.alloc (w:World) (x:Obj):One w (w.alloc x) x:=⟨fun b hb=>heap_alloc_old w x b hb,heap_alloc_new w x,by simp,rfl,rfl,rfl,Nat.le_refl _⟩
theorem One.drew (w:World) (x:Obj):One w (w.drew.alloc x) x:=⟨fun b hb=>heap_alloc_old w.drew x b hb,heap_alloc_new w.drew x,by simp,rfl,rfl,rfl,Nat.le_succ _⟩
theorem OA {w':World} {x:Obj} (o1:One w w' x) (wf:∀ b o,R.I b o→b < w.heap.size) {n id:Nat} {r0 r1:RO} (hid:nth R.obj id=some r0) (hle:cJ r0 r1):Ext R w (R.upto w.heap.size n (aF R.obj id r1)) w':=
 ⟨fun _ _ h=>.inl h,fun b o h=>ca (o1.old b (wf b o h)) o,fun i r h=>by
  by_cases e:id=i
  ·subst e
   rw [hid] at h
   cases h
   exact ⟨_,aO hid,hle⟩
  ·exact ⟨r,by rw [an.upto,bP e]; exact h,cJ.refl r⟩,.old fun b hb=>o1.old b hb⟩
theorem bo.Uv (h:bo E R w β s a) {w':World} {x:Obj} (o1:One w w' x) {n id:Nat} {r0 r1:RO} {JI go:GO} (hg:nth s.G id=some JI) (hid:nth R.obj id=some r0) (hle:cJ r0 r1) (xH:∀ b,r1.has b→b=w.heap.size∨r0.has b)
  (jc:ic (R.upto w.heap.size n (aF R.obj id r1)) w' go r1) :
  bo E (R.upto w.heap.size n (aF R.obj id r1)) w' β (s.cg (aF s.G id go)) a∧Step R w β s.boxes (R.upto w.heap.size n (aF R.obj id r1)) w' β s.boxes:=by
 have e:=OA (R:=R) (n:=n) o1 h.g.wf hid hle
 have hI:∀ b o,b < w.heap.size→(R.upto w.heap.size n (aF R.obj id r1)).I b o→R.I b o:=fun b o hb hi=>by
  rcases hi with hi | ⟨hi,_⟩
  ·exact hi
  ·omega
 have live:∀ b,b < w.heap.size→Live (R.upto w.heap.size n (aF R.obj id r1)) b→Live R b:=fun b hb hl=>by
  obtain ⟨i,r,h1,h2⟩:=hl
  rcases aN hid h1 with ⟨_,rfl⟩ | ⟨_,h1⟩
  ·rcases xH b h2 with h3 | h3
   ·omega
   ·exact ⟨id,r0,hid,h3⟩
  ·exact ⟨i,r,h1,h2⟩
 refine ⟨⟨⟨by simp [St.cg,an.upto,h.g.len],fun i gg r h1 h2=>?_,fun i j ri rj b h1 h2 b1 b2=>?_,fun b o hi=>?_,fun g cs hg=>(h.g.cm g cs hg).mono e,Nat.le_trans h.g.lo o1.drawn⟩,?_,h.t.mono e,h.n,h.d.mono e⟩,?_⟩
 ·rcases aN hid h2 with ⟨rfl,rfl⟩ | ⟨cD,h2⟩
  ·simp only [St.cg] at h1
   rw [aO hg] at h1
   cases h1
   exact jc
  ·simp only [St.cg] at h1
   rw [bP (Ne.symm cD)] at h1
   exact (h.g.obj i gg r h1 h2).mono e (fun b hb=>o1.old b (h.g.b8 ⟨i,r,h2,hb⟩)) (fun b o hb=>hI b o (h.g.b8 ⟨i,r,h2,hb⟩))
 ·rcases aN hid h1 with ⟨g3,e1⟩ | ⟨g3,g1⟩
  ·rcases aN hid h2 with ⟨g4,e2⟩ | ⟨g4,g2⟩
   ·omega
   ·rw [e1] at b1
    rcases xH b b1 with b3 | b3
    ·have:=h.g.b8 ⟨j,rj,g2,b2⟩
     omega
    ·exact g3.trans (h.g.inj id j _ _ b hid g2 b3 b2)
  ·rcases aN hid h2 with ⟨g4,e2⟩ | ⟨g4,g2⟩
   ·rw [e2] at b2
    rcases xH b b2 with b3 | b3
    ·have:=h.g.b8 ⟨i,ri,g1,b1⟩
     omega
    ·exact (h.g.inj i id _ _ b g1 hid b1 b3).trans g4.symm
   ·exact h.g.inj i j ri rj b g1 g2 b1 b2
 ·rcases hi with hi | ⟨rfl,_⟩
  ·have:=h.g.wf b o hi
   rw [o1.size]
   omega
  ·rw [o1.size]; omega
 ·exact h.b.bJ e (fun k cs hk=>o1.old _ (h.fa (.inr ⟨k,cs,hk,rfl⟩))) (fun k cs o hk=>hI _ o (h.fa (.inr ⟨k,cs,hk,rfl⟩))) (fun k cs hk hl=>live _ (h.fa (.inr ⟨k,cs,hk,rfl⟩)) hl)
 ·refine ⟨e,o1.os,o1.tape,o1.output,by rw [o1.size]; omega,fun b hb _=>o1.old b hb,fun b hb ho=>?_,fun b o hi hb _=>hI b o hb hi⟩
  rcases ho with ho | ho
  ·exact .inl (live b hb ho)
  ·exact .inr ho
theorem bo.OB (h:bo E R w β s a) {cur cur2:Array Value} {elem:TypeId} {n id g:Nat} {r0 r1:RO} {JI go:GO} (hg:nth s.G id=some JI) (hid:nth R.obj id=some r0) (N7:r0.has g) (hle:cJ r0 r1) (xH:∀ b,r1.has b→r0.has b)
  (jt:w.heap[g]?=some (.cells cur elem (0,0))) (xI:∀ o,R.I g o→cur2[o]?=cur[o]?)
  (jc:Ext R w (R.upto g n (aF R.obj id r1)) (w.setRow g cur2)→ic (R.upto g n (aF R.obj id r1)) (w.setRow g cur2) go r1) :
  Ext R w (R.upto g n (aF R.obj id r1)) (w.setRow g cur2)∧bo E (R.upto g n (aF R.obj id r1)) (w.setRow g cur2) β (s.cg (aF s.G id go)) a∧Step R w β s.boxes (R.upto g n (aF R.obj id r1)) (w.setRow g cur2) β s.boxes:=by
 have old:∀ b,b≠g→(w.setRow g cur2).heap[b]?=w.heap[b]?:=fun b hb=>setRow_other w g b cur2 hb
 have new:(w.setRow g cur2).heap[g]?=some (.cells cur2 elem (0,0)):=setRow_heap w g cur cur2 elem (0,0) jt
 have rO:Live R g:=⟨id,_,hid,N7⟩
 have e:Ext R w (R.upto g n (aF R.obj id r1)) (w.setRow g cur2):=by
  refine ⟨fun _ _ hi=>.inl hi,fun b o hi=>?_,fun i r hr=>?_,fun b r hb=>⟨r,(old b fun e=>by subst e; rw [jt] at hb; cases hb).trans hb,rfl,rfl,rfl,rfl,rfl⟩⟩
  ·by_cases hb:b=g
   ·subst hb
    simp only [World.cell?,new,jt,xI o hi]
   ·exact ca (old b hb) o
  ·by_cases ei:id=i
   ·subst ei
    rw [hid] at hr
    cases hr
    exact ⟨_,aO hid,hle⟩
   ·exact ⟨r,by rw [an.upto,bP ei]; exact hr,cJ.refl r⟩
 have hI:∀ b o,b≠g→(R.upto g n (aF R.obj id r1)).I b o→R.I b o:=fun b o hb hi=>by
  rcases hi with hi | ⟨hi,_⟩
  ·exact hi
  ·exact absurd hi hb
 have live:∀ b,Live (R.upto g n (aF R.obj id r1)) b→Live R b:=fun b hl=>by
  obtain ⟨i,r,h1,h2⟩:=hl
  rcases aN hid h1 with ⟨_,rfl⟩ | ⟨_,h1⟩
  ·exact ⟨id,_,hid,xH b h2⟩
  ·exact ⟨i,r,h1,h2⟩
 have rP:∀ k cs,dO s.boxes k=some cs→β k≠g:=fun k cs hk eq=>(h.b.box k cs hk).2.2 (eq ▸ rO)
 refine ⟨e,⟨⟨by simp [St.cg,an.upto,h.g.len],fun i gg r h1 h2=>?_,fun i j ri rj b h1 h2 b1 b2=>?_,fun b o hi=>?_,fun g cs hg=>(h.g.cm g cs hg).mono e,h.g.lo⟩,?_,h.t.mono e,h.n,h.d.mono e⟩,?_⟩
 ·rcases aN hid h2 with ⟨rfl,rfl⟩ | ⟨cD,h2⟩
  ·simp only [St.cg] at h1
   rw [aO hg] at h1
   cases h1
   exact jc e
  ·simp only [St.cg] at h1
   rw [bP (Ne.symm cD)] at h1
   have Uu:∀ b,r.has b→b≠g:=fun b hb eq=>cD (h.g.inj i id _ _ b h2 hid hb (by rw [eq]; exact N7))
   exact (h.g.obj i gg r h1 h2).mono e (fun b hb=>old b (Uu b hb)) (fun b o hb=>hI b o (Uu b hb))
 ·rcases aN hid h1 with ⟨g3,e1⟩ | ⟨g3,g1⟩
  ·rcases aN hid h2 with ⟨g4,e2⟩ | ⟨g4,g2⟩
   ·omega
   ·rw [e1] at b1
    exact g3.trans (h.g.inj id j _ _ b hid g2 (xH b b1) b2)
  ·rcases aN hid h2 with ⟨g4,e2⟩ | ⟨g4,g2⟩
   ·rw [e2] at b2
    exact (h.g.inj i id _ _ b g1 hid b1 (xH b b2)).trans g4.symm
   ·exact h.g.inj i j ri rj b g1 g2 b1 b2
 ·rcases hi with hi | ⟨rfl,_⟩
  ·have:=h.g.wf b o hi
   simpa using this
  ·have:=bn jt
   simpa using this
 ·exact h.b.bJ e (fun k cs hk=>old _ (rP k cs hk)) (fun k cs o hk=>hI _ o (rP k cs hk)) (fun k cs hk hl=>live _ hl)
 ·refine ⟨e,rfl,rfl,rfl,by simp,fun b hb ul=>old b (fun eq=>ul (.inl (eq ▸ rO))),fun b hb ho=>?_,fun b o hi hb ul=>hI b o (fun eq=>ul (.inl (eq ▸ rO))) hi⟩
  rcases ho with ho | ho
  ·exact .inl (live b ho)
  ·exact .inr ho
theorem tZ.set {ts:List TR} {j:Nat} {t t':TR} (ht:nth ts j=some t) (hle:mC t t'):tZ ts (aF ts j t'):=fun i u hu=>by
 by_cases e:j=i
 ·subst e
  rw [ht] at hu
  cases hu
  exact ⟨t',aO ht,hle⟩
 ·exact ⟨u,by rw [bP e]; exact hu,mC.refl u⟩
theorem GR {ts:List TR} {j n g c b:Nat} (h:RO.has (.bk (aF ts j (.tok n g c))) b):b=g∨RO.has (.bk ts) b:=by
 obtain ⟨i,f,c',hi⟩:=h
 rcases dE hi with ⟨_,e,_⟩ | ⟨_,hi⟩
 ·cases e; exact .inl rfl
 ·exact .inr ⟨i,f,c',hi⟩
theorem Ax.of {R':an} {w':World} {sz f:Nat} {e:TypeId} {t:TR} (h:Ax R w sz e f t) (hold:∀ f b c,t=.tok f b c→w'.heap[b]?=w.heap[b]?∧∀ o,R'.I b o→R.I b o):Ax R' w' sz e f t:=by
 cases t with
 | bN=>exact h
 | full f'=>exact h
 | tok f' b c=>
  obtain ⟨h0,cur,h1,h2,h3,h4,h5⟩:=h
  obtain ⟨k1,k2⟩:=hold f' b c rfl
  exact ⟨h0,cur,k1.trans h1,h2,h3,h4,fun o ho hi=>h5 o ho (k2 o hi)⟩
theorem xn.set {R':an} {w':World} {sz:Nat} {e:TypeId} {fs:List Nat} {ts:List TR} (h:xn R w sz e fs ts) {j n g c:Nat} (pn:Ax R' w' sz e n (.tok n g c)) (Kd:∀ i f c,nth ts i=some (.tok f g c)→i=j)
  (hold:∀ i f b c,i≠j→nth ts i=some (.tok f b c)→w'.heap[b]?=w.heap[b]?∧∀ o,R'.I b o→R.I b o):xn R' w' sz e (aF fs j n) (aF ts j (.tok n g c)):=by
 obtain ⟨h1,h2,h3⟩:=h
 refine ⟨by simp [h1],fun i i' f1 b c1 f2 c2 q1 q2=>?_,fun i f1 t1 q1 q2=>?_⟩
 ·rcases dE q1 with ⟨n1,e1,_⟩ | ⟨n1,q1⟩
  ·cases e1
   rcases dE q2 with ⟨n2,_,_⟩ | ⟨n2,q2⟩
   ·exact n1.symm.trans n2
   ·exact absurd (Kd _ _ _ q2).symm n2
  ·rcases dE q2 with ⟨n2,e2,_⟩ | ⟨n2,q2⟩
   ·cases e2
    exact (Kd _ _ _ q1).trans n2
   ·exact h2 i i' _ _ _ _ _ q1 q2
 ·rcases dE q1 with ⟨n1,e1,_⟩ | ⟨n1,q1⟩
  ·rcases dE q2 with ⟨_,e2,_⟩ | ⟨n2,_⟩
   ·subst e1 e2
    exact pn
   ·exact absurd n1 n2
  ·rcases dE q2 with ⟨n2,_,_⟩ | ⟨n2,q2⟩
   ·exact absurd n2 n1
   ·exact (h3 i f1 t1 q1 q2).of fun f b c ht=>by subst ht; exact hold i f b c (Ne.symm n2) q2
end ops
end Go.Am
