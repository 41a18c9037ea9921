/- The abstract machine: what it does is what the model does: slices that are built and cut. -/
import Derived.Test.YtegoimldbgdeiaaAmKB
import Derived.IntWalk
set_option linter.all false
namespace Go.Am
open Go
theorem cD (l r:List AV):au (l++r)=au l++au r:=by
 induction l with
 | nil=>rfl
 | cons e l ih=>simp [au,ih]
theorem cE {sz:Nat} {es:List AV} (h:gU sz es):(au es).length=es.length * sz:=by
 induction es with
 | nil=>simp [au]
 | cons e es ih=>
  have h1:=(h e (by simp)).1
  have:=ih (fun x hx=>h x (by simp [hx]))
  simp only [au,List.length_append,this,h1,List.length_cons,Nat.add_mul]
  omega
section rel
variable {R:ak} {w:World}
theorem lu {b sz:Nat}:∀ {es:List AV} {o:Nat},gU sz es→ew R w b o (au es)→gl R w b o sz es
 | [],_,_,_=>.nil
 | e :: es,o,h,hc=>by
  obtain ⟨h1,h2,h3⟩:=h e (by simp)
  obtain ⟨vs,k1,k2,k3,k4⟩:=hc.get
  have hd:=hc.drop sz
  have QH:(au (e :: es)).drop sz=au es:=by simp only [au]; rw [← h1,List.drop_left]
  have Gg:(au (e :: es)).take sz=e.cells:=by simp only [au]; rw [← h1,List.take_left]
  rw [QH] at hd
  refine .cons h1 h2 h3 ?_ (lu (fun x hx=>h x (by simp [hx])) hd)
  have kt:=k1.take sz
  rw [Gg] at kt
  refine .make kt (fun v hv=>k2 v (List.mem_of_mem_take hv)) (fun j v hv=>k3 j v ?_) (fun j hj=>k4 j ?_)
  ·rw [List.getElem?_take] at hv
   split at hv
   ·exact hv
   ·cases hv
  ·simp only [au,List.length_append]
   omega
theorem tW {b sz:Nat}:∀ {es:List AV} {o:Nat},gl R w b o sz es→gU sz es∧∃ vs,aI R w (au es) vs∧(∀ v∈vs,v.oneCell'=true)∧(∀ j v,vs[j]?=some v→w.cell? ⟨b,o+j,none⟩=some v)∧∀ j,j < es.length * sz→R.I b (o+j)
 | [],o,_=>⟨fun e he=>by simp at he,[],.nil,by simp,by simp,by simp⟩
 | e :: es,o,h=>by
  cases h with
  | cons hl ht hk hc t=>
   obtain ⟨g0,vs,g1,g2,g3,g4⟩:=tW t
   obtain ⟨us,f1,f2,f3,f4⟩:=hc.get
   have hlen:us.length=sz:=by rw [← f1.length,hl]
   refine ⟨fun x hx=>?_,us++vs,f1.append g1,fun v hv=>?_,fun j v hv=>?_,fun j hj=>?_⟩
   ·rcases List.mem_cons.1 hx with rfl | hx
    ·exact ⟨hl,ht,hk⟩
    ·exact g0 x hx
   ·rcases List.mem_append.1 hv with hv | hv
    ·exact f2 v hv
    ·exact g2 v hv
   ·by_cases hj:j < sz
    ·rw [List.getElem?_append_left (by omega)] at hv
     exact f3 j v hv
    ·rw [List.getElem?_append_right (by omega),hlen] at hv
     have:=g3 _ v hv
     rwa [show o+sz+(j - sz)=o+j by omega] at this
   ·by_cases IH:j < sz
    ·exact f4 j (by omega)
    ·have:=g4 (j - sz) (by simp only [List.length_cons,Nat.add_mul] at hj; omega)
     rwa [show o+sz+(j - sz)=o+j by omega] at this
theorem xq {b sz:Nat}:∀ (n:Nat) {es:List AV} {o:Nat},gl R w b o sz es→gl R w b (o+n * sz) sz (es.drop n)
 | 0,es,o,h=>by simpa using h
 | n+1,[],o,h=>by simpa using gl.nil
 | n+1,e :: es,o,h=>by
  cases h with
  | cons hl ht hk hc t=>
   have:=xq n t
   rw [show o+sz+n * sz=o+(n+1) * sz by rw [Nat.add_mul]; omega] at this
   simpa using this
theorem rD {b sz:Nat}:∀ (n:Nat) {es:List AV} {o:Nat},gl R w b o sz es→gl R w b o sz (es.take n)
 | 0,es,o,h=>by simpa using gl.nil
 | n+1,[],o,h=>by simpa using gl.nil
 | n+1,e :: es,o,h=>by
  cases h with
  | cons hl ht hk hc t=>simpa using gl.cons hl ht hk hc (rD n t)
end rel
theorem fJ {sz n:Nat} {z:AV} (h1:z.cells.length=sz) (h2:z.aP=true) (h3:z.closed=true):gU sz (List.replicate n z):=fun e he=>by
 rw [List.mem_replicate] at he
 rw [he.2]
 exact ⟨h1,h2,h3⟩
theorem tX {sz:Nat}:∀ {es:List AV} {i:Nat} {v:AV},gU sz es→i < es.length→v.cells.length=sz→au (az es i v)=bR (au es) (i * sz) v.cells
 | [],i,v,_,h,_=>by simp at h
 | e :: es,0,v,h,_,hv=>by
  have h1:=(h e (by simp)).1
  simp only [az,au,Nat.zero_mul]
  rw [eB _ 0 _ (by simp; omega)]
  simp only [List.take_zero,List.nil_append,Nat.zero_add]
  rw [hv,← h1,List.drop_left]
 | e :: es,i+1,v,h,hi,hv=>by
  have h1:=(h e (by simp)).1
  have FT:gU sz es:=fun x hx=>h x (by simp [hx])
  have ih:=tX (i:=i) (v:=v) FT (by simpa using hi) hv
  have bT:i < es.length:=by simpa using hi
  have hle:i * sz+sz≤es.length * sz:=by rw [← Nat.succ_mul]; exact Nat.mul_le_mul_right _ bT
  have hl:=cE FT
  simp only [az,au]
  have e1:(i+1) * sz=e.cells.length+i * sz:=by rw [h1,Nat.succ_mul]; omega
  have e2:List.take (e.cells.length+i * sz) e.cells=e.cells:=List.take_of_length_le (by omega)
  rw [ih,eB _ _ _ (by omega),e1,eB _ _ _ (by simp only [List.length_append]; omega)]
  rw [List.take_append,e2,Nat.add_assoc,List.drop_append,List.drop_of_length_le (by omega:e.cells.length≤e.cells.length+(i * sz+v.cells.length))]
  simp [Nat.add_sub_cancel_left]
theorem EL {sz:Nat} {es:List AV} {i:Nat} {v:AV} (h:gU sz es) (h1:v.cells.length=sz) (h2:v.aP=true) (h3:v.closed=true):gU sz (az es i v):=fun e he=>by
 rw [gw] at he
 rcases List.mem_or_eq_of_mem_set he with he | rfl
 ·exact h e he
 ·exact ⟨h1,h2,h3⟩
theorem sg {sz:Nat}:∀ {ps:List (Nat × AV)} {es es':List AV},zM sz es ps=some es'→gU sz es →
  r9 (fun i=>some (i * sz,sz)) (au es) ps=some (au es')∧gU sz es'∧es'.length=es.length
 | [],es,es',h,hk=>by simp [zM] at h; subst h; exact ⟨rfl,hk,rfl⟩
 | (i,v) :: ps,es,es',h,hk=>by
  unfold zM at h
  split at h
  ·rename_i hc
   simp only [Bool.and_eq_true] at hc
   obtain ⟨⟨⟨hn,hl⟩,hi⟩,K0⟩:=hc
   have Wj:=Nat.eq_of_beq_eq_true hl
   have oI:=Nat.le_of_ble_eq_true hi
   obtain ⟨g1,g2,g3⟩:=sg h (EL hk Wj hn K0)
   refine ⟨?_,g2,by simpa using g3⟩
   unfold r9
   have hle:Nat.ble (i * sz+sz) (au es).length=true:=by
    apply Nat.ble_eq_true_of_le
    rw [cE hk,← Nat.succ_mul]
    exact Nat.mul_le_mul_right _ oI
   simp only [hn,hl,hle,Bool.and_self,if_true]
   rw [← tX hk (by omega) Wj]
   exact g1
  ·cases h
section ops
variable {E:Env} {R:ak} {w:World} {β:Nat→Nat} {s:St} {a:Act} {o:Oper}
def ak.PN (R:ak) (b:Nat):ak:=⟨fun b' o=>R.I b' o∨b'=b,R.obj⟩
theorem yy (wf:∀ b o,R.I b o→b < w.heap.size) (x:Obj):Ext R w (R.PN w.heap.size) (w.alloc x):=
 ⟨fun _ _ h=>.inl h,fun b o h=>b8 (heap_alloc_old w x b (wf b o h)) o,fun _ ro h=>⟨ro,h,cp.refl ro⟩,.old fun b hb=>heap_alloc_old w x b hb⟩
theorem aY.PN (h:aY E R w β s a) (x:Obj):aY E (R.PN w.heap.size) (w.alloc x) β s a:=
 h.aZ (yy h.g.wf x) rfl (fun b hb=>heap_alloc_old w x b (h.dS hb)) (fun b o hb hi=>by
  rcases hi with hi | hi
  ·exact hi
  ·have:=h.dS hb
   omega) (fun b o hi=>by
  rcases hi with hi | hi
  ·have:=h.g.wf b o hi
   simp
   omega
  ·simp
   omega)
theorem Gh (h:aY E R w β s a) (x:Obj):Step R w β s.boxes (R.PN w.heap.size) (w.alloc x) β s.boxes:=
 ⟨yy h.g.wf x,rfl,rfl,rfl,by simp,fun b hb _=>heap_alloc_old w x b hb,fun _ _ ho=>ho,fun b o hi hb _=>by
  rcases hi with hi | hi
  ·exact hi
  ·omega⟩
theorem nh (z:Array Value):∀ (n:Nat),(((Array.range (n * z.size)).map fun i=>z[i % z.size]!)).toList=(List.replicate n z.toList).flatten
 | 0=>by simp
 | n+1=>by
  have ih:=nh z n
  simp only [Array.toList_map,Array.toList_range] at ih ⊢
  rw [Nat.add_mul,Nat.one_mul,List.range_add,List.map_append,ih,List.replicate_succ',List.flatten_append]
  congr 1
  simp only [List.map_map,List.flatten_cons,List.flatten_nil,List.append_nil]
  apply List.ext_getElem?
  intro i
  by_cases hi:i < z.size
  ·simp only [List.getElem?_map,List.getElem?_range hi,Option.map_some,Function.comp_apply]
   rw [Nat.mul_comm n,Nat.mul_add_mod,Nat.mod_eq_of_lt hi]
   simp [hi]
  ·rw [List.getElem?_eq_none (by simp; omega),List.getElem?_eq_none (by simp; omega)]
theorem lx {z:AV} {c:Value} (hr:Rel R w z c) (hn:z.aP=true):∀ (n:Nat),aI R w (au (List.replicate n z)) (List.replicate n c.cells.toList).flatten∧∀ v∈(List.replicate n c.cells.toList).flatten,v.oneCell'=true
 | 0=>by simp [au]; exact .nil
 | n+1=>by
  obtain ⟨c1,c2⟩:=Rel.cells hr hn
  obtain ⟨h1,h2⟩:=lx hr hn n
  refine ⟨?_,fun v hv=>?_⟩
  ·simpa [List.replicate_succ,au] using c1.append h1
  ·simp only [List.replicate_succ,List.flatten_cons,List.mem_append] at hv
   rcases hv with hv | hv
   ·exact c2 v hv
   ·exact h2 v hv
theorem rE:∀ {ps:List (Nat × AV)} {us:List Value},aI R w (ps.map (·.2)) us→aI R w ((xe ps).map (·.2)) us
 | [],_,h=>h
 | (_,_) :: _,_,.cons h t=>.cons h.gj (rE t)
theorem rF:∀ (ps:List (Nat × AV)),(xe ps).map (·.1)=ps.map (·.1)
 | []=>rfl
 | (i,v) :: l=>by simp [xe,rF l]
theorem gV (h:aY E R w β s a) (t:TypeId) (len:Nat) (parts:Array (Nat × Operand)) (ho:o.op=.buildSlice t len parts) {v:AV} (hv:bQ E s t len parts.toList=some v) :
  ∃ es esz us elem,v=.list .full esz es∧(execOp a.eval o).run E.P w=.ok (.value (.slice (some ⟨w.heap.size,0,none⟩) len len)) (w.alloc (.cells ⟨us⟩ elem))∧gU esz es∧es.length=len∧aI R w (au es) us∧(∀ x∈us,x.oneCell'=true)∧∃ i ag na z,E.ti t=some i∧i.k=.sl elem esz ag na z:=by
 unfold bQ at hv
 split at hv
 ·rename_i i ps hi FR
  split at hv
  ·rename_i elem esz ag na z hk
   split at hv
   ·rename_i hc
    simp only [Bool.and_eq_true] at hc
    obtain ⟨⟨⟨⟨EM,QI⟩,QJ⟩,hz4⟩,hz5⟩:=hc
    have EM:=Nat.eq_of_beq_eq_true EM
    have QI:=Nat.le_of_ble_eq_true QI
    have QJ:=Nat.le_of_ble_eq_true QJ
    split at hv
    ·rename_i es FT
     cases hv
     obtain ⟨gf,u,e1,e2,e3,e4,e5,e6⟩:=bP E hi
     rw [hk] at e5
     obtain ⟨ie,ue,rfl,f1,f2,f3,f4,f5,f6⟩:=dm e5
     obtain ⟨zc,n9,Bt⟩:=cU f6
     have K1:=Bt R w
     obtain ⟨c1,c2⟩:=Rel.cells K1 hz4
     have qa:zc.cells.size=esz:=by rw [← EM,c1.length]; simp
     obtain ⟨p1,p2⟩:=tk h FR
     obtain ⟨z1,z2⟩:=lx K1 hz4 len
     obtain ⟨g1,g2,g3⟩:=sg FT (fJ EM hz4 hz5)
     obtain ⟨us,u1,u2,u3⟩:=ng (R:=R) (w:=w) _ (rE p1) ((rF ps).trans p2) z1 z2 g1
     have Ml:(parts.map fun (x:Nat × Operand)=>(x.1,a.eval x.2)).toList=parts.toList.map fun x=>(x.1,a.eval x.2):=by simp
     have tY:((Array.range (len * esz)).map fun i=>zc.cells[i % zc.cells.size]!)=⟨(List.replicate len zc.cells.toList).flatten⟩:=by
      apply Array.ext'
      rw [← qa]
      exact nh zc.cells len
     have hlen:es.length=len:=by simpa using g3
     have bj:(Instr.buildSlice t len (parts.map fun (x:Nat × Operand)=>(x.1,a.eval x.2))).run E.P w=.ok (.slice (some ⟨w.heap.size,0,none⟩) len len) (w.alloc (.cells ⟨us⟩ elem)):=by
      have IG:¬ len * esz > 2 ^ 24:=by omega
      by_cases h0:len * esz=0
      ·have sQ:len=0:=by
        rcases Nat.mul_eq_zero.1 h0 with h0 | h0 <;> omega
       subst sQ
       have TO:Instr.fill (fun i=>some (i * esz,esz)) #[] (parts.toList.map fun x=>(x.1,a.eval x.2))=some ⟨us⟩:=by simpa using u1
       simp only [Instr.buildSlice,Sem.run_bind,run_underlying e2,Result.andThen_ok,run_sizeOf w f1,f2]
       simp only [Nat.zero_mul,gt_iff_lt,Nat.not_lt_zero,if_false,if_true,Sem.run_bind,Sem.run_pure,Result.andThen_ok,Ml]
       have zS:∀ f:Nat→Value,Array.map f (Array.range 0)=#[]:=fun f=>by simp
       simp only [zS,TO,newRow,Sem.run_bind,run_newObj,Result.andThen_ok,Sem.run_pure]
       rfl
      ·simp only [Instr.buildSlice,Sem.run_bind,run_underlying e2,Result.andThen_ok,run_sizeOf w f1,f2]
       rw [if_neg IG,if_neg h0]
       simp only [Sem.run_bind,Sem.run_pure,Result.andThen_ok,gm w f1 n9,Ml,tY,u1,newRow,run_newObj]
       rfl
     exact ⟨es,esz,us,elem,rfl,by simp only [execOp,ho,Sem.run_bind,bj,Result.andThen_ok,Sem.run_pure],g2,hlen,u2,u3,i,ag,na,_,hi,hk⟩
    ·cases hv
   ·cases hv
  ·cases hv
 ·cases hv
theorem sR (h:aY E R w β s a) (t:TypeId) (len:Nat) (parts:Array (Nat × Operand)) (ho:o.op=.buildSlice t len parts) {cs:List AV} (hv:ju E s t len parts.toList=some cs) :
  ∃ esz us elem,(execOp a.eval o).run E.P w=.ok (.value (.slice (some ⟨w.heap.size,0,none⟩) len len)) (w.alloc (.cells ⟨us⟩ elem))∧aI R w cs us∧(∀ x∈us,x.oneCell'=true)∧∃ i ag na z,E.ti t=some i∧i.k=.sl elem esz ag na z:=by
 unfold ju at hv
 split at hv
 ·rename_i i ps hi FR
  split at hv
  ·rename_i elem esz ag na z hk
   split at hv
   ·rename_i hc
    simp only [Bool.and_eq_true] at hc
    obtain ⟨⟨⟨EM,QI⟩,QJ⟩,hz4⟩:=hc
    have EM:=Nat.eq_of_beq_eq_true EM
    have QI:=Nat.le_of_ble_eq_true QI
    have QJ:=Nat.le_of_ble_eq_true QJ
    ·have g1:=hv
     obtain ⟨gf,u,e1,e2,e3,e4,e5,e6⟩:=bP E hi
     rw [hk] at e5
     obtain ⟨ie,ue,rfl,f1,f2,f3,f4,f5,f6⟩:=dm e5
     obtain ⟨zc,n9,Bt⟩:=cU f6
     have K1:=Bt R w
     obtain ⟨c1,c2⟩:=Rel.cells K1 hz4
     have qa:zc.cells.size=esz:=by rw [← EM,c1.length]; simp
     obtain ⟨p1,p2⟩:=tk h FR
     obtain ⟨z1,z2⟩:=lx K1 hz4 len
     obtain ⟨us,u1,u2,u3⟩:=ng (R:=R) (w:=w) _ (rE p1) ((rF ps).trans p2) z1 z2 g1
     have Ml:(parts.map fun (x:Nat × Operand)=>(x.1,a.eval x.2)).toList=parts.toList.map fun x=>(x.1,a.eval x.2):=by simp
     have tY:((Array.range (len * esz)).map fun i=>zc.cells[i % zc.cells.size]!)=⟨(List.replicate len zc.cells.toList).flatten⟩:=by
      apply Array.ext'
      rw [← qa]
      exact nh zc.cells len
     have bj:(Instr.buildSlice t len (parts.map fun (x:Nat × Operand)=>(x.1,a.eval x.2))).run E.P w=.ok (.slice (some ⟨w.heap.size,0,none⟩) len len) (w.alloc (.cells ⟨us⟩ elem)):=by
      have IG:¬ len * esz > 2 ^ 24:=by omega
      by_cases h0:len * esz=0
      ·have sQ:len=0:=by
        rcases Nat.mul_eq_zero.1 h0 with h0 | h0 <;> omega
       subst sQ
       have TO:Instr.fill (fun i=>some (i * esz,esz)) #[] (parts.toList.map fun x=>(x.1,a.eval x.2))=some ⟨us⟩:=by simpa using u1
       simp only [Instr.buildSlice,Sem.run_bind,run_underlying e2,Result.andThen_ok,run_sizeOf w f1,f2]
       simp only [Nat.zero_mul,gt_iff_lt,Nat.not_lt_zero,if_false,if_true,Sem.run_bind,Sem.run_pure,Result.andThen_ok,Ml]
       have zS:∀ f:Nat→Value,Array.map f (Array.range 0)=#[]:=fun f=>by simp
       simp only [zS,TO,newRow,Sem.run_bind,run_newObj,Result.andThen_ok,Sem.run_pure]
       rfl
      ·simp only [Instr.buildSlice,Sem.run_bind,run_underlying e2,Result.andThen_ok,run_sizeOf w f1,f2]
       rw [if_neg IG,if_neg h0]
       simp only [Sem.run_bind,Sem.run_pure,Result.andThen_ok,gm w f1 n9,Ml,tY,u1,newRow,run_newObj]
       rfl
     exact ⟨esz,us,elem,by simp only [execOp,ho,Sem.run_bind,bj,Result.andThen_ok,Sem.run_pure],u2,u3,i,ag,na,_,hi,hk⟩
   ·cases hv
  ·cases hv
 ·cases hv
theorem sS (h:aY E R w β s a) (t:TypeId) (len:Nat) (parts:Array (Nat × Operand)) (ho:o.op=.buildSlice t len parts) {v:AV} (hv:bQ E s t len parts.toList=some v) :
  bH E R w β s a o (s.put o.dst (.v v)):=by
 obtain ⟨es,esz,us,elem,rfl,bj,g2,hlen,u2,u3,_⟩:=gV h t len parts ho hv
 have e:=yy (R:=R) (w:=w) h.g.wf (.cells ⟨us⟩ elem)
 refine ⟨_,.slice (some ⟨w.heap.size,0,none⟩) len len,_,R.PN w.heap.size,β,bj,.inl rfl,(h.PN (.cells ⟨us⟩ elem)).put o.dst ?_,by rw [aS]; exact Gh h _⟩
 refine Rel.list (lu g2 (ew.make (u2.mono e) u3 (fun j x hx=>?_) (fun j _=>.inr rfl))) hlen.symm (Nat.le_refl _) rfl
 rw [iH (heap_alloc_new w _)]
 simpa using hx
theorem rG (h:aY E R w β s a) (t:TypeId) (len:Nat) (parts:Array (Nat × Operand)) (ho:o.op=.buildSlice t len parts) {cs:List AV} (hv:ju E s t len parts.toList=some cs) {i:TI} (hi:E.ti t=some i) {el:TypeId} {esz eb:Nat} {ag:Bool} {z:Option AV} (hk:i.k=.sl el esz ag eb z) :
  bH E R w β s a o ((s.dH (.row cs el)).put o.dst (.v (.iR s.G.length 0 esz len len))):=by
 obtain ⟨Mm,us,elem,bj,u2,u3,i',TP,PO,z',oI,ja⟩:=sR h t len parts ho hv
 rw [hi] at oI
 cases oI
 rw [hk] at ja
 cases ja
 have e:=fW (R:=R) (w:=w) h.g.wf (.cells ⟨us⟩ el) (.bB w.heap.size)
 have gS:gd (R.add (.bB w.heap.size)) (w.alloc (.cells ⟨us⟩ el)) (.row cs el) (.bB w.heap.size):=
  ⟨_,heap_alloc_new w _,u2.mono e,u3,fun o' hi=>by have:=h.g.wf _ _ hi; omega⟩
 exact ⟨_,_,_,R.add (.bB w.heap.size),β,bj,.inl rfl,(h.jU _ _ _ (by exact fun _ h=>h) gS).put o.dst (x:=.v (.iR s.G.length 0 esz len len)) (Rel.iR (ft h _) (Nat.le_refl _)),by rw [aS]; exact cB h _ _ (by exact fun _ h=>h)⟩
theorem rH (h:aY E R w β s a) (t:TypeId) (len:Nat) (parts:Array (Nat × Operand)) (ho:o.op=.buildSlice t len parts) {k:LK} {esz:Nat} {es:List AV} (hv:bQ E s t len parts.toList=some (.list k esz es)) {i:TI} (hi:E.ti t=some i) {el:TypeId} {bq eb:Nat} {ag:Bool} {z:Option AV} (hk:i.k=.sl el bq ag eb z) :
  bH E R w β s a o ((s.dH (.row (au es) el)).put o.dst (.v (.iR s.G.length 0 esz len len))):=by
 obtain ⟨es',Mm,us,elem,QK,bj,g2,hlen,u2,u3,i',TP,PO,z',oI,ja⟩:=gV h t len parts ho hv
 cases QK
 rw [hi] at oI
 cases oI
 rw [hk] at ja
 cases ja
 have e:=fW (R:=R) (w:=w) h.g.wf (.cells ⟨us⟩ el) (.bB w.heap.size)
 have gS:gd (R.add (.bB w.heap.size)) (w.alloc (.cells ⟨us⟩ el)) (.row (au es) el) (.bB w.heap.size):=
  ⟨_,heap_alloc_new w _,u2.mono e,u3,fun o' hi=>by have:=h.g.wf _ _ hi; omega⟩
 exact ⟨_,_,_,R.add (.bB w.heap.size),β,bj,.inl rfl,(h.jU _ _ _ (by exact fun _ h=>h) gS).put o.dst (x:=.v (.iR s.G.length 0 esz len len)) (Rel.iR (ft h _) (Nat.le_refl _)),by rw [aS]; exact cB h _ _ (by exact fun _ h=>h)⟩
end ops
end Go.Am
namespace Go.Am
open Go
section ops
variable {E:Env} {R:ak} {w:World} {β:Nat→Nat} {s:St} {a:Act} {o:Oper}
def Mn (R:ak) (w:World) (β:Nat→Nat):Option SV→Option Value→Prop
 | none,none=>True
 | some x,some c=>oE R w β x c
 | _,_=>False
theorem xr {y y' n:Nat} {x:SV} {c:Value} (hx:oE R w β x c) (hb:yk y x=some (true,n)) (hy:y≤y') (code:BoundsCode) :
  (Instr.sliceBound c y' code).run E.P w=.ok n w∧n≤y:=by
 unfold yk at hb
 split at hb
 ·rename_i k m
  injection hb with hb
  injection hb with h1 h2
  subst h2
  obtain ⟨h0,h3⟩:=of_decide_eq_true h1
  have sO:Rel R w (.int k m) c:=hx
  cases sO
  exact ⟨run_sliceBound (P:=E.P) w k m y' code h0 (by omega),by omega⟩
 ·cases hb
theorem dL (Wk:Bool) {len cap l h:Nat} (zE:len≤cap) {lo hi:Option SV} {lv hv:Option Value} (hl:Mn R w β lo lv) (hh:Mn R w β hi hv) (hb:BD len lo hi=some (true,l,h)) :
  (Instr.sliceBounds Wk len cap lv hv none).run E.P w=.ok (l,h,cap) w∧l≤h∧h≤len:=by
 unfold BD at hb
 split at hb
 ·cases hb
 ·rename_i c1 h' jL
  split at hb
  ·cases hb
  ·rename_i c2 l' Mo
   injection hb with hb
   injection hb with hc hb
   injection hb with e1 e2
   subst e1; subst e2
   simp only [Bool.and_eq_true] at hc
   obtain ⟨rfl,rfl⟩:=hc
   have H:∃ _:True,(match hv with | some v=>Instr.sliceBound v cap (if Wk=true then .sliceAcap else .sliceAlen) | none=>pure len).run E.P w=.ok h' w∧h'≤len:=by
    refine ⟨trivial,?_⟩
    cases hi with
    | none=>cases hv with
     | none=>simp at jL; subst jL; exact ⟨rfl,Nat.le_refl _⟩
     | some v=>exact hh.elim
    | some x=>cases hv with
     | none=>exact hh.elim
     | some v=>exact xr (E:=E) hh jL zE _
   have L:∃ _:True,(match lv with | some v=>Instr.sliceBound v h' .sliceB | none=>pure 0).run E.P w=.ok l' w∧l'≤h':=by
    refine ⟨trivial,?_⟩
    cases lo with
    | none=>cases lv with
     | none=>simp at Mo; subst Mo; exact ⟨rfl,Nat.zero_le _⟩
     | some v=>exact hl.elim
    | some x=>cases lv with
     | none=>exact hl.elim
     | some v=>exact xr (E:=E) hl Mo (Nat.le_refl _) _
   obtain ⟨_,H1,H2⟩:=H
   obtain ⟨_,L1,L2⟩:=L
   refine ⟨?_,L2,H2⟩
   cases hv <;> cases lv <;> simp_all [Instr.sliceBounds]
theorem zT (h:aY E R w β s a) {x:Option Operand} {y:Option SV} (hx:lU E s.ae x=some y):Mn R w β y (x.map a.eval):=by
 cases x with
 | none=>simp [lU] at hx; subst hx; trivial
 | some x=>simp [lU] at hx; subst hx; exact aN h x
theorem ni {α:Type} {l:List α} {lo hi:Nat} (h:hi≤l.length):(hZ lo hi l).length=hi - lo:=by
 simp [hZ]
 omega
theorem wJ (l:List UInt8) (lo hi:Nat):(⟨⟨l⟩⟩:ByteArray).extract lo hi=⟨⟨hZ lo hi l⟩⟩:=by
 apply ByteArray.ext
 rw [ByteArray.data_extract]
 apply Array.ext'
 simp [List.extract_eq_take_drop,hZ,List.drop_take]
theorem Du {ag:Bool} {b sz:Nat} (eC:(ag || Nat.beq sz 1)=true):∀ (n:Nat) {cs:List AV} {o:Nat},ew R w b o cs→n * sz≤cs.length→allFit (BE ag) (gB ag sz n cs)=true→gl R w b o sz (gB ag sz n cs)
 | 0,_,_,_,_,_=>.nil
 | n+1,cs,o,hc,hl,hf=>by
  simp only [gB,allFit,Bool.and_eq_true] at hf
  obtain ⟨tZ,SY⟩:=hf
  unfold BE at tZ
  simp only [Bool.and_eq_true] at tZ
  obtain ⟨⟨h1,h2⟩,h3⟩:=tZ
  have hle:sz≤cs.length:=by rw [Nat.succ_mul] at hl; omega
  have kY:(Qw ag (cs.take sz)).cells=cs.take sz:=by
   cases ag with
   | true=>rfl
   | false=>
    have KY:sz=1:=by simpa using eC
    subst KY
    match cs,hle with
    | a :: cs,_=>
     show AV.cells a=[a]
     have ho:a.one=true:=by simpa [Qw,dU] using h2
     cases a <;> first | rfl | simp [AV.one] at ho
  obtain ⟨vs,k1,k2,k3,k4⟩:=hc.get
  have hA:ew R w b o (cs.take sz):=ew.make (k1.take sz) (fun v hv=>k2 v (List.mem_of_mem_take hv)) (fun j v hv=>k3 j v (by
   rw [List.getElem?_take] at hv
   split at hv
   ·exact hv
   ·cases hv)) (fun j hj=>k4 j (by rw [List.length_take] at hj; omega))
  exact .cons (by rw [kY,List.length_take,Nat.min_eq_left hle]) h1 h3 (by rw [kY]; exact hA) (Du eC n (hc.drop sz) (by rw [List.length_drop]; rw [Nat.succ_mul] at hl; omega) SY)
theorem oK (ag:Bool) (sz:Nat):∀ (n:Nat) (cs:List AV),(gB ag sz n cs).length=n
 | 0,_=>rfl
 | n+1,cs=>by simp [gB,oK ag sz n]
theorem BT (h:aY E R w β s a) (t:TypeId) (x:Operand) (lo hi:Option Operand) (ho:o.op=.slice t x lo hi none) {l h':Option SV} (hl:lU E s.ae lo=some l) (hh:lU E s.ae hi=some h') {v:AV} (hv:yl E t (bi E s.ae x) l h' none=some (true,v)) :
  bH E R w β s a o (s.put o.dst (.v v)):=by
 have rx:=aN h x
 have rl:=zT h hl
 have rh:=zT h hh
 unfold yl at hv
 split at hv
 ·rename_i i oI Wl
  obtain ⟨gf,u,e1,e2,e3,e4,e5,e6⟩:=bP E oI
  split at hv
  ·-- a string
   rename_i bs hk hx
   rw [hx] at rx
   have dA:Rel R w (.str bs) (a.eval x):=rx
   generalize e8:a.eval x=xv at dA
   cases dA
   rw [hk] at e5
   have:=jV e5
   subst this
   split at hv
   ·rename_i c p q hb
    injection hv with hv
    injection hv with h1 h2
    subst h1; subst h2
    obtain ⟨k1,k2,k3⟩:=dL (E:=E) false (Nat.le_refl _) rl rh hb
    refine ap h (c:=.string ⟨⟨hZ p q bs⟩⟩) ?_ (Rel.str _)
    rw [← wJ]
    simp only [execOp,ho,Instr.sliceAt,Sem.run_bind,run_underlying e2,Result.andThen_ok,Instr.slice,e8,Option.map_none,Option.isSome_none,Bool.false_eq_true,if_false,size_bytes,k1,Sem.run_pure]
   ·cases hv
  ·-- a list
   rename_i elem esz ag na z k sz es hk hx
   rw [hx] at rx
   rw [hk] at e5
   obtain ⟨ie,ue,rfl,f1,f2,f3,f4,f5,f6⟩:=dm e5
   split at hv
   ·rename_i eC
    split at hv
    ·rename_i c p q hb
     injection hv with hv
     injection hv with h1 h2
     subst h1; subst h2
     have dA:Rel R w (.list k sz es) (a.eval x):=rx
     generalize e8:a.eval x=xv at dA
     cases dA with
     | iF=>
      obtain ⟨k1,k2,k3⟩:=dL (E:=E) true (Nat.le_refl _) rl rh hb
      simp only [List.length_nil,Nat.le_zero_eq] at k3
      subst k3
      have:p=0:=by omega
      subst this
      refine ap h (c:=.slice none 0 0) ?_ ?_
      ·simp only [execOp,ho,Instr.sliceAt,Sem.run_bind,run_underlying e2,Result.andThen_ok,Instr.slice,e8,Option.map_none]
       simp only [List.length_nil] at k1
       simp [k1,run_sizeOf w f1]
      ·exact Rel.iF
     | ia=>
      obtain ⟨k1,k2,k3⟩:=dL (E:=E) true (Nat.le_refl _) rl rh hb
      simp only [List.length_nil,Nat.le_zero_eq] at k3
      subst k3
      have:p=0:=by omega
      subst this
      refine ap h (c:=.slice none 0 0) ?_ ?_
      ·simp only [execOp,ho,Instr.sliceAt,Sem.run_bind,run_underlying e2,Result.andThen_ok,Instr.slice,e8,Option.map_none]
       simp only [List.length_nil] at k1
       simp [k1,run_sizeOf w f1]
      ·exact Rel.ia
     | @lY _ ad=>
      obtain ⟨k1,k2,k3⟩:=dL (E:=E) true (Nat.le_refl _) rl rh hb
      simp only [List.length_nil,Nat.le_zero_eq] at k3
      subst k3
      have:p=0:=by omega
      subst this
      refine ap h (c:=.slice (some ad) 0 0) ?_ ?_
      ·simp only [execOp,ho,Instr.sliceAt,Sem.run_bind,run_underlying e2,Result.andThen_ok,Instr.slice,e8,Option.map_none]
       simp only [List.length_nil] at k1
       simp [k1,run_sizeOf w f1]
      ·exact Rel.lY
     | lZ h0 h00=>
      obtain ⟨k1,k2,k3⟩:=dL (E:=E) true (Nat.le_refl _) rl rh hb
      simp only [List.length_nil,Nat.le_zero_eq] at k3
      subst k3
      have:p=0:=by omega
      subst this
      refine ap h (c:=.slice none 0 0) ?_ ?_
      ·simp only [execOp,ho,Instr.sliceAt,Sem.run_bind,run_underlying e2,Result.andThen_ok,Instr.slice,e8,Option.map_none]
       simp only [List.length_nil] at k1
       simp [k1,run_sizeOf w f1]
      ·exact Rel.ia
     | kV h0 h00=>
      obtain ⟨k1,k2,k3⟩:=dL (E:=E) true (Nat.le_refl _) rl rh hb
      simp only [List.length_nil,Nat.le_zero_eq] at k3
      subst k3
      have:p=0:=by omega
      subst this
      refine ap h (c:=.slice none 0 0) ?_ ?_
      ·simp only [execOp,ho,Instr.sliceAt,Sem.run_bind,run_underlying e2,Result.andThen_ok,Instr.slice,e8,Option.map_none]
       simp only [List.length_nil] at k1
       simp [k1,run_sizeOf w f1]
      ·exact Rel.ia
     | @list _ _ _ b o' len cap hr hlen ic Gc=>
      subst hlen
      obtain ⟨k1,k2,k3⟩:=dL (E:=E) true ic rl rh hb
      have QL:es≠[]→sz=esz:=fun cM=>by
       simp only [Bool.or_eq_true] at eC
       rcases eC with hc | hc
       ·exact Nat.eq_of_beq_eq_true hc
       ·simp at hc; exact absurd hc cM
      have bj:(execOp a.eval o).run E.P w=.ok (.value (.slice (if cap=p then some ⟨b,o',none⟩ else some ⟨b,o'+p * esz,none⟩) (q - p) (cap - p))) w:=by
       simp only [execOp,ho,Instr.sliceAt,Sem.run_bind,run_underlying e2,Result.andThen_ok,Instr.slice,e8,Option.map_none,k1,run_sizeOf w f1,f2,Sem.run_pure,Option.map_some,cn]
      have ua:∀ b2 o2,yn R (match k with | .nil=>LK.nil | .full=>(match h' with | none=>LK.full | some _=>LK.iU) | _=>LK.iU) b2 o2 (q - p) (cap - p):=by
       intro b2 o2
       cases k with
       | nil=>exact Gc.elim
       | iU=>trivial
       | own id=>trivial
       | aX id j=>trivial
       | full=>
        have hc:cap=es.length:=Gc
        cases h' with
        | some _=>trivial
        | none=>
         have hq:q=es.length:=by
          unfold BD at hb
          simp only at hb
          split at hb
          ·cases hb
          ·injection hb with hb
           injection hb with _ hb
           injection hb with _ hb
           exact hb.symm
         show cap - p=q - p
         omega
      by_cases PP:cap=p
      ·refine ap h (c:=.slice (some ⟨b,o',none⟩) (q - p) (cap - p)) (by rw [bj,if_pos PP]) ?_
       have he:hZ p q es=[]:=List.eq_nil_of_length_eq_zero (by rw [ni k3]; omega)
       exact Rel.list (by rw [he]; exact .nil) (by rw [ni k3]) (by omega) (ua _ _)
      ·refine ap h (c:=.slice (some ⟨b,o'+p * esz,none⟩) (q - p) (cap - p)) (by rw [bj,if_neg PP]) ?_
       refine Rel.list ?_ (by rw [ni k3]) (by omega) (ua _ _)
       by_cases cM:es=[]
       ·subst cM
        simp [hZ]
        exact .nil
       ·have:=QL cM
        subst this
        exact xq p (rD q hr)
    ·cases hv
   ·cases hv
  ·-- a heap slice
   rename_i elem esz ag na z id off sz len cap hk hx
   rw [hx] at rx
   rw [hk] at e5
   obtain ⟨ie,ue,rfl,f1,f2,f3,f4,f5,f6⟩:=dm e5
   split at hv
   ·rename_i eC
    have eC:=Nat.eq_of_beq_eq_true eC
    subst eC
    split at hv
    ·rename_i c p q hb
     injection hv with hv
     injection hv with h1 h2
     subst h1; subst h2
     have dA:Rel R w (.iR id off sz len cap) (a.eval x):=rx
     generalize e8:a.eval x=xv at dA
     cases dA with
     | @iR _ _ _ _ _ b hbk ic=>
      obtain ⟨k1,k2,k3⟩:=dL (E:=E) true ic rl rh hb
      refine ap h (c:=.slice (some ⟨b,bif Nat.beq cap p then off else off+p * sz,none⟩) (q - p) (cap - p)) ?_ (Rel.iR hbk (by omega))
      have hb:(bif Nat.beq cap p then off else off+p * sz)=if cap=p then off else off+p * sz:=by
       by_cases e:cap=p
       ·rw [if_pos e,e,show Nat.beq p p=true from Nat.beq_refl p]; rfl
       ·rw [if_neg e]
        cases hq:Nat.beq cap p with
        | true=>exact absurd (Nat.eq_of_beq_eq_true hq) e
        | false=>rfl
      rw [hb]
      simp only [execOp,ho,Instr.sliceAt,Sem.run_bind,run_underlying e2,Result.andThen_ok,Instr.slice,e8,Option.map_none,k1,run_sizeOf w f1,f2,Sem.run_pure,Option.map_some,cn]
      split <;> rfl
    ·cases hv
   ·cases hv
  ·-- a slice that grows
   rename_i elem esz ag na z id f' off sz len hk hx
   rw [hx] at rx
   rw [hk] at e5
   obtain ⟨ie,ue,rfl,f1,f2,f3,f4,f5,f6⟩:=dm e5
   split at hv
   ·rename_i eC
    have eC:=Nat.eq_of_beq_eq_true eC
    subst eC
    split at hv
    ·rename_i c p q hb
     injection hv with hv
     injection hv with h1 h2
     subst h1; subst h2
     have dA:Rel R w (.dT id f' off sz len) (a.eval x):=rx
     generalize e8:a.eval x=xv at dA
     cases dA with
     | iY h0 h00=>
      obtain ⟨k1,k2,k3⟩:=dL (E:=E) true (Nat.le_refl _) rl rh hb
      simp only [Nat.le_zero_eq] at k3
      subst k3
      have:p=0:=by omega
      subst this
      refine ap h (c:=.slice none 0 0) ?_ ?_
      ·simp only [execOp,ho,Instr.sliceAt,Sem.run_bind,run_underlying e2,Result.andThen_ok,Instr.slice,e8,Option.map_none]
       simp [k1,run_sizeOf w f1]
      ·exact Rel.iY h0 h00
     | @dT _ _ _ _ _ cap b o' ro bI eY ic=>
      obtain ⟨k1,k2,k3⟩:=dL (E:=E) true ic rl rh hb
      have bj:(execOp a.eval o).run E.P w=.ok (.value (.slice (if cap=p then some ⟨b,o',none⟩ else some ⟨b,o'+p * sz,none⟩) (q - p) (cap - p))) w:=by
       simp only [execOp,ho,Instr.sliceAt,Sem.run_bind,run_underlying e2,Result.andThen_ok,Instr.slice,e8,Option.map_none,k1,run_sizeOf w f1,f2,Sem.run_pure,Option.map_some,cn]
      have Wm:∀ o2,(o2=o'+p * sz∨cap=p)→EC b o2 f' (off+p) sz (cap - p) ro:=fun o2 h2=>by
       cases ro with
       | none=>trivial
       | bn=>exact eY.elim
       | bB _=>exact eY.elim
       | aX _=>exact eY.elim
       | tok f1 b1 c1=>
        refine ⟨eY.1,fun e=>?_⟩
        obtain ⟨q1,q2,q3⟩:=eY.2 e
        refine ⟨q1,by omega,?_⟩
        rcases h2 with h2 | h2
        ·rcases q3 with q3 | q3
         ·exact .inl (by rw [h2,q3,Nat.add_mul])
         ·exact .inr (by omega)
        ·exact .inr (by omega)
      by_cases PP:cap=p
      ·exact ap h (c:=.slice (some ⟨b,o',none⟩) (q - p) (cap - p)) (by rw [bj,if_pos PP]) (Rel.dT bI (Wm _ (.inr PP)) (by omega))
      ·exact ap h (c:=.slice (some ⟨b,o'+p * sz,none⟩) (q - p) (cap - p)) (by rw [bj,if_neg PP]) (Rel.dT bI (Wm _ (.inl rfl)) (by omega))
    ·cases hv
   ·cases hv
  ·-- an array that never changes again
   rename_i len esz ag cs hk hx
   rw [hx] at rx
   rw [hk] at e5
   obtain ⟨e,ie,ue,rfl,f1,f2,f3,f4⟩:=mZ e5
   split at hv
   ·split at hv
    ·rename_i cC
     simp only [Bool.and_eq_true] at cC
     obtain ⟨⟨⟨c1,c2⟩,c3⟩,c4⟩:=cC
     injection hv with hv
     injection hv with _ h2
     subst h2
     have dA:Rel R w (.ep cs) (a.eval x):=rx
     generalize e8:a.eval x=xv at dA
     cases dA with
     | @ep _ b o' hr=>
     obtain ⟨k1,_,_⟩:=dL (E:=E) (w:=w) (R:=R) (β:=β) (l:=0) (h:=len) false (Nat.le_refl len) rl rh rfl
     refine ap h (c:=.slice (some ⟨b,o',none⟩) len len) ?_ (Rel.list (Du c3 len hr (Nat.le_of_ble_eq_true c1) c4) (oK _ _ _ _).symm (Nat.le_refl _) rfl)
     simp only [execOp,ho,Instr.sliceAt,Sem.run_bind,run_underlying e2,Result.andThen_ok,e8,Instr.sureAddr,Option.map_none,k1,run_sizeOf w f1,f2,Sem.run_pure]
     by_cases sQ:len=0
     ·subst sQ
      simp
     ·simp [sQ,cn]
    ·cases hv
   ·cases hv
  ·cases hv
 ·cases hv
theorem yz (h:aY E R w β s a) (t:TypeId) (ho:o.op=.makeMap t none):bH E R w β s a o ((s.dH (.map [])).put o.dst (.v (.map s.G.length))):=by
 have gS:gd (R.add (.bB w.heap.size)) (w.alloc (.map #[] 0)) (.map []) (.bB w.heap.size):=⟨#[],0,heap_alloc_new w _,trivial,rfl,fun i e he=>by simp at he⟩
 refine ⟨_,.map (some w.heap.size),w.alloc (.map #[] 0),R.add (.bB w.heap.size),β,?_,.inl rfl,(h.jU (.map #[] 0) (.map []) (.bB w.heap.size) (by exact fun _ h=>h) gS).put o.dst (x:=.v (.map s.G.length)) (Rel.map (ft h _)),by rw [aS]; exact cB h _ _ (by exact fun _ h=>h)⟩
 simp only [execOp,ho,Instr.makeMap,Option.map_none,Sem.run_bind,run_newObj,Result.andThen_ok,Sem.run_pure]
 rfl
theorem oL (h:aY E R w β s a) (t:TypeId) (x y:Operand) (ho:o.op=.makeSlice t x y) {i:TI} (hi:E.ti t=some i) {k k':IntKind} {n m:Int} (hx:bi E s.ae x=.v (.int k n)) (hy:bi E s.ae y=.v (.int k' m))
  {elem esz na:Nat} {ag:Bool} {z:AV} (hk:i.k=.sl elem esz ag na (some z)) (hz:z.cells.length=esz) (EM:1≤esz) (oJ:z.aP=true) (hc:0≤n∧n≤m∧m≤140737488355328∧m * na≤140737488355328) :
  ∃ us,aI R w (au (List.replicate m.toNat z)) us∧(∀ v∈us,v.oneCell'=true)∧(execOp a.eval o).run E.P w=.ok (.value (.slice (some ⟨w.heap.size,0,none⟩) n.toNat m.toNat)) (w.alloc (.cells ⟨us⟩ elem)):=by
 have rx:=aN h x
 have ry:=aN h y
 rw [hx] at rx
 rw [hy] at ry
 have dA:Rel R w (.int k n) (a.eval x):=rx
 have mQ:Rel R w (.int k' m) (a.eval y):=ry
 generalize e8:a.eval x=xv at dA
 generalize PM:a.eval y=yv at mQ
 cases dA
 cases mQ
 obtain ⟨c1,c2,c3,c4⟩:=hc
 obtain ⟨gf,u,e1,e2,e3,e4,e5,e6⟩:=bP E hi
 rw [hk] at e5
 obtain ⟨ie,ue,rfl,f1,f2,f3,f4,f5,f6⟩:=dm e5
 obtain ⟨zc,n9,Bt⟩:=cU f6
 have K1:=Bt R w
 obtain ⟨d1,d2⟩:=Rel.cells K1 oJ
 have qa:zc.cells.size=esz:=by rw [← hz,d1.length]; simp
 obtain ⟨z1,z2⟩:=lx K1 oJ m.toNat
 have tY:((Array.range (m.toNat * esz)).map fun i=>zc.cells[i % zc.cells.size]!)=⟨(List.replicate m.toNat zc.cells.toList).flatten⟩:=by
  apply Array.ext'
  rw [← qa]
  exact nh zc.cells m.toNat
 have wn:IntKind.i64.wrap n=n:=IntWalk.i64_in n (by omega)
 have wm:IntKind.i64.wrap m=m:=IntWalk.i64_in m (by omega)
 have bj:(Instr.makeSlice t (.int k n) (.int k' m)).run E.P w=.ok (.slice (some ⟨w.heap.size,0,none⟩) n.toNat m.toNat) (w.alloc (.cells ⟨(List.replicate m.toNat zc.cells.toList).flatten⟩ elem)):=by
  have hby:(ie.bytes:Int) * m≤281474976710656:=by rw [f3,Int.mul_comm]; omega
  have QM:¬ 281474976710656 < (ie.bytes:Int) * m:=by omega
  have h1:¬ m < 0:=by omega
  have h2:¬ n < 0:=by omega
  have h3:¬ m < n:=by omega
  have Mp:(typeInfo elem).run E.P w=.ok ie w:=by simp [typeInfo,f1]
  by_cases h0:m.toNat * esz=0
  ·have XY:m.toNat=0:=by
    rcases Nat.mul_eq_zero.1 h0 with h0 | h0 <;> omega
   have zS:∀ f:Nat→Value,Array.map f (Array.range 0)=#[]:=fun f=>by simp
   simp [Instr.makeSlice,run_underlying e2,asInt,asIntOf,Mp,wn,wm,h1,h2,h3,QM,run_sizeOf w f1,f2,XY,newRow]
   rw [zS]
  ·simp [Instr.makeSlice,run_underlying e2,asInt,asIntOf,Mp,wn,wm,h1,h2,h3,QM,run_sizeOf w f1,f2,h0,gm w f1 n9,newRow]
   rw [← tY]
 refine ⟨_,z1,z2,?_⟩
 simp only [execOp,ho,e8,PM,Sem.run_bind,bj,Result.andThen_ok,Sem.run_pure]
theorem ub (h:aY E R w β s a) (t:TypeId) (x y:Operand) (ho:o.op=.makeSlice t x y) {i:TI} (hi:E.ti t=some i) {k k':IntKind} {n m:Int} (hx:bi E s.ae x=.v (.int k n)) (hy:bi E s.ae y=.v (.int k' m))
  {elem esz na:Nat} {ag:Bool} {z:AV} (hk:i.k=.sl elem esz ag na (some z)) (hz:z.cells.length=esz) (EM:1≤esz) (oJ:z.aP=true) (hc:0≤n∧n≤m∧m≤140737488355328∧m * na≤140737488355328) :
  bH E R w β s a o ((s.dH (.row (au (List.replicate m.toNat z)) elem)).put o.dst (.v (.iR s.G.length 0 esz n.toNat m.toNat))):=by
 obtain ⟨us,z1,z2,bj⟩:=oL h t x y ho hi hx hy hk hz EM oJ hc
 have e:=fW (R:=R) (w:=w) h.g.wf (.cells ⟨us⟩ elem) (.bB w.heap.size)
 have gS:gd (R.add (.bB w.heap.size)) (w.alloc (.cells ⟨us⟩ elem)) (.row (au (List.replicate m.toNat z)) elem) (.bB w.heap.size):=
  ⟨_,heap_alloc_new w _,z1.mono e,z2,fun o' hi=>by have:=h.g.wf _ _ hi; omega⟩
 exact ⟨_,.slice (some ⟨w.heap.size,0,none⟩) n.toNat m.toNat,_,R.add (.bB w.heap.size),β,bj,.inl rfl,(h.jU _ _ (.bB w.heap.size) (by exact fun _ h=>h) gS).put o.dst (x:=.v (.iR s.G.length 0 esz n.toNat m.toNat)) (Rel.iR (ft h _) (by omega)),by rw [aS]; exact cB h _ _ (by exact fun _ h=>h)⟩
end ops
end Go.Am
namespace Go.Am
open Go
section ops
variable {E:Env} {R:ak} {w:World} {β:Nat→Nat} {s:St} {a:Act} {o:Oper}
theorem jW (x:Array Operand) (f:Operand→Value):x.map f=⟨x.toList.map f⟩:=Array.ext' (by simp)
theorem dG {b:Builtin} {args:Array Operand} {tys:Array TypeId} (ho:o.op=.call { callee:=.builtin b,args:=args,argTypes:=tys }) (vs:List Value) (hv:args.toList.map a.eval=vs) :
  (execOp a.eval o).run E.P w=(builtin b tys o.type (args.map fun | .const _=>true | _=>false) ⟨vs⟩).run E.P w:=by
 simp only [execOp,ho,resolve,Sem.run_bind,Sem.run_pure,Result.andThen_ok,invoke,jW args a.eval,hv]
 rfl
theorem di.length:∀ {l:List (AV × AV)} {es:List MapEntry},di R w l es→l.length=es.length
 | [],[],_=>rfl
 | _ :: _,_ :: _,h=>by simp [di.length h.2.2]
 | [],_ :: _,h=>h.elim
 | _ :: _,[],h=>h.elim
theorem Gi (h:aY E R w β s a) {args:Array Operand} {tys:List TypeId} (ho:o.op=.call { callee:=.builtin .len,args:=args,argTypes:=⟨tys⟩ }) {l:List AV} (hl:kS E s.ae args.toList=some l) {s':St} (hs:bG E s o.dst .len l tys=some (true,s')) :
  bH E R w β s a o s':=by
 have hr:=fu h hl
 generalize hv:args.toList.map a.eval=vs at hr
 have hx:=dG (E:=E) (w:=w) ho vs hv
 unfold bG at hs
 split at hs <;> first | (rename_i h1; cases h1; done) | skip
 ·rename_i x
  cases hr with
  | cons h0 h1=>
  cases h1
  split at hs
  ·rename_i t tl
   split at hs
   ·rename_i i hi
    obtain ⟨gf,u,e1,e2,e3,e4,e5,e6⟩:=bP E hi
    split at hs
    ·rename_i bs hk
     cases hs
     cases h0
     rw [hk] at e5
     have:=jV e5
     subst this
     refine ap h (c:=.int .i64 bs.length) ?_ (Rel.int _ _)
     rw [hx]
     simp [builtin,Builtin.len_,run_underlying e2,goInt,size_bytes]
    ·rename_i kk sz es hk
     cases hs
     rw [hk] at e5
     obtain ⟨ie,ue,rfl,_⟩:=dm e5
     refine ap h (c:=.int .i64 es.length) ?_ (Rel.int _ _)
     rw [hx]
     cases h0 with
     | iF=>simp [builtin,Builtin.len_,run_underlying e2,goInt]
     | ia=>simp [builtin,Builtin.len_,run_underlying e2,goInt]
     | lY=>simp [builtin,Builtin.len_,run_underlying e2,goInt]
     | lZ=>simp [builtin,Builtin.len_,run_underlying e2,goInt]
     | kV=>simp [builtin,Builtin.len_,run_underlying e2,goInt]
     | list _ hlen _ _=>subst hlen; simp [builtin,Builtin.len_,run_underlying e2,goInt]
    ·rename_i id off sz len cap hk
     cases hs
     rw [hk] at e5
     obtain ⟨ie,ue,rfl,_⟩:=dm e5
     refine ap h (c:=.int .i64 len) ?_ (Rel.int _ _)
     rw [hx]
     cases h0
     simp [builtin,Builtin.len_,run_underlying e2,goInt]
    ·rename_i id f' off sz len hk
     cases hs
     rw [hk] at e5
     obtain ⟨ie,ue,rfl,_⟩:=dm e5
     refine ap h (c:=.int .i64 len) ?_ (Rel.int _ _)
     rw [hx]
     cases h0 <;> simp [builtin,Builtin.len_,run_underlying e2,goInt]
    ·rename_i n esz ag hk
     cases hs
     rw [hk] at e5
     obtain ⟨e,ie,ue,rfl,_⟩:=mZ e5
     refine ap h (c:=.int .i64 n) ?_ (Rel.int _ _)
     rw [hx]
     simp [builtin,Builtin.len_,run_underlying e2,goInt]
    ·rename_i hk
     cases hs
     rw [hk] at e5
     obtain ⟨rfl,_⟩:=lr e5
     refine ap h (c:=.int .i64 0) ?_ (Rel.int _ _)
     rw [hx]
     cases h0
     simp [builtin,Builtin.len_,run_underlying e2,goInt]
    ·rename_i id hk
     split at hs
     ·rename_i es hg
      cases hs
      rw [hk] at e5
      obtain ⟨rfl,_⟩:=lr e5
      cases h0 with
      | @map _ b hb=>
      obtain ⟨aw,clock,g1,g2,g3⟩:=h.g.obj id _ _ hg hb
      refine ap h (c:=.int .i64 es.length) ?_ (Rel.int _ _)
      rw [hx]
      have gS:(getObj b).run E.P w=.ok (.map aw clock) w:=by simp [getObj,Sem.run,g1]
      simp [builtin,Builtin.len_,run_underlying e2,goInt,gS,g2.length]
     ·cases hs
    ·cases hs
   ·cases hs
  ·cases hs
 ·cases hs
theorem Dv {b:Bool}:∀ {l:List AV} {x v:AV} {c:Value} {cs:List Value},Rel R w x c→aI R w l cs→Ey x l=some v→∃ c',(cs.foldlM Builtin.max2 c).run E.P w=.ok c' w∧Rel R w v c'
 | [],x,v,c,cs,hr,hl,hv=>by
  cases hl
  simp only [Ey] at hv
  cases hv
  exact ⟨c,rfl,hr⟩
 | y :: l,x,v,c,cs,hr,hl,hv=>by
  cases hl with
  | cons hy hl=>
  unfold Ey at hv
  split at hv
  ·rename_i jL; cases jL
  ·rename_i k n k' m l' jL
   cases jL
   split at hv
   ·rename_i hk
    subst hk
    cases hr
    cases hy
    obtain ⟨c',h1,h2⟩:=Dv (b:=b) (Rel.int k (if m > n then m else n)) hl hv
    refine ⟨c',?_,h2⟩
    simp only [List.foldlM_cons,Sem.run_bind,Builtin.max2,Sem.run_pure,Result.andThen_ok]
    exact h1
   ·cases hv
  ·cases hv
theorem yA {b:Bool}:∀ {l:List AV} {x v:AV} {c:Value} {cs:List Value},Rel R w x c→aI R w l cs→BF x l=some v→∃ c',(cs.foldlM Builtin.min2 c).run E.P w=.ok c' w∧Rel R w v c'
 | [],x,v,c,cs,hr,hl,hv=>by
  cases hl
  simp only [BF] at hv
  cases hv
  exact ⟨c,rfl,hr⟩
 | y :: l,x,v,c,cs,hr,hl,hv=>by
  cases hl with
  | cons hy hl=>
  unfold BF at hv
  split at hv
  ·rename_i jL; cases jL
  ·rename_i k n k' m l' jL
   cases jL
   split at hv
   ·rename_i hk
    subst hk
    cases hr
    cases hy
    obtain ⟨c',h1,h2⟩:=yA (b:=b) (Rel.int k (if m < n then m else n)) hl hv
    refine ⟨c',?_,h2⟩
    simp only [List.foldlM_cons,Sem.run_bind,Builtin.min2,Sem.run_pure,Result.andThen_ok]
    exact h1
   ·cases hv
  ·rename_i n m l' jL
   cases jL
   cases hr
   cases hy
   obtain ⟨c',h1,h2⟩:=yA (b:=b) (Rel.str (bif Op.bytesLess n m || n == m then n else m)) hl hv
   refine ⟨c',?_,h2⟩
   have e:(Builtin.min2 (.string ⟨⟨n⟩⟩) (.string ⟨⟨m⟩⟩)).run E.P w=.ok (.string ⟨⟨bif Op.bytesLess n m || n == m then n else m⟩⟩) w:=by
    simp only [Builtin.min2,Op.stringOp,Sem.run_bind,Sem.run_pure,Result.andThen_ok]
    show Result.andThen ((asBool _).run E.P w) _=_
    cases hb:(Op.bytesLess n m || n == m) <;> simp_all [asBool]
   simp only [List.foldlM_cons,Sem.run_bind,e,Result.andThen_ok]
   exact h1
  ·cases hv
theorem Gj (h:aY E R w β s a) {args:Array Operand} {tys:Array TypeId} (ho:o.op=.call { callee:=.builtin .max,args:=args,argTypes:=tys }) {x v:AV} {l:List AV} (hl:kS E s.ae args.toList=some (x :: l)) (hm:Ey x l=some v) :
  bH E R w β s a o (s.put o.dst (.v v)):=by
 have hr:=fu h hl
 generalize hv:args.toList.map a.eval=vs at hr
 have hx:=dG (E:=E) (w:=w) ho vs hv
 cases hr with
 | cons h0 h1=>
 obtain ⟨c',k1,k2⟩:=Dv (E:=E) (b:=true) h0 h1 hm
 refine ap h (c:=c') ?_ k2
 rw [hx]
 simp [builtin,Builtin.max_,k1]
theorem Gk (h:aY E R w β s a) {args:Array Operand} {tys:Array TypeId} (ho:o.op=.call { callee:=.builtin .min,args:=args,argTypes:=tys }) {x v:AV} {l:List AV} (hl:kS E s.ae args.toList=some (x :: l)) (hm:BF x l=some v) :
  bH E R w β s a o (s.put o.dst (.v v)):=by
 have hr:=fu h hl
 generalize hv:args.toList.map a.eval=vs at hr
 have hx:=dG (E:=E) (w:=w) ho vs hv
 cases hr with
 | cons h0 h1=>
 obtain ⟨c',k1,k2⟩:=yA (E:=E) (b:=true) h0 h1 hm
 refine ap h (c:=c') ?_ k2
 rw [hx]
 simp [builtin,Builtin.min_,k1]
end ops
end Go.Am
namespace Go.Am
open Go
section ops
variable {E:Env} {R:ak} {w:World} {β:Nat→Nat} {s:St} {a:Act} {o:Oper}
def ak.upto (R:ak) (g n:Nat) (obj:List RO):ak:=⟨fun b o=>R.I b o∨(b=g∧o < n),obj⟩
theorem aC {l:List RO} {id i:Nat} {x r y:RO} (XZ:nth l id=some y) (h:nth (az l id x) i=some r):(i=id∧r=x)∨(i≠id∧nth l i=some r):=by
 rcases cY h with ⟨rfl,rfl,_⟩ | ⟨cM,h⟩
 ·exact .inl ⟨rfl,rfl⟩
 ·exact .inr ⟨Ne.symm cM,h⟩
theorem BU (wf:∀ b o,R.I b o→b < w.heap.size) (x:Obj) (n:Nat) (ro:RO):Ext R w (R.upto w.heap.size n (R.obj++[ro])) (w.drew.alloc x):=
 ⟨fun _ _ h=>.inl h,fun b o h=>b8 (heap_alloc_old w.drew x b (wf b o h)) o,fun _ r h=>⟨r,cZ h,cp.refl r⟩,.old fun b hb=>heap_alloc_old w.drew x b hb⟩
theorem BV (wf:∀ b o,R.I b o→b < w.heap.size) (x:Obj) {n id m:Nat} {r0:RO} (bM:nth R.obj id=some r0) (b' c':Nat) (bT:cp r0 (.tok m b' c')):Ext R w (R.upto w.heap.size n (az R.obj id (.tok m b' c'))) (w.drew.alloc x):=
 ⟨fun _ _ h=>.inl h,fun b o h=>b8 (heap_alloc_old w.drew x b (wf b o h)) o,fun i r h=>by
  by_cases e:id=i
  ·subst e
   rw [bM] at h
   cases h
   exact ⟨_,aG bM,bT⟩
  ·exact ⟨r,by rw [ak.upto,bt e]; exact h,cp.refl r⟩,.old fun b hb=>heap_alloc_old w.drew x b hb⟩
theorem aY.Mq (h:aY E R w β s a) {cur:Array Value} {elem:TypeId} {n sz cap:Nat} (hn:n≤cap) (hm:cap≤maxLen) (hs:cur.size=cap * sz) :
  aY E (R.upto w.heap.size (n * sz) (R.obj++[.tok n w.heap.size cap])) (w.drew.alloc (.cells cur elem)) β (s.dH (.tok n sz elem)) a ∧
  Step R w β s.boxes (R.upto w.heap.size (n * sz) (R.obj++[.tok n w.heap.size cap])) (w.drew.alloc (.cells cur elem)) β s.boxes:=by
 have e:=BU (R:=R) (w:=w) h.g.wf (.cells cur elem) (n * sz) (.tok n w.heap.size cap)
 have old:∀ b,b < w.heap.size→(w.drew.alloc (.cells cur elem)).heap[b]?=w.heap[b]?:=fun b hb=>heap_alloc_old w.drew _ b hb
 have new:(w.drew.alloc (.cells cur elem)).heap[w.heap.size]?=some (.cells cur elem (0,0)):=heap_alloc_new w.drew _
 have hI:∀ b o,b < w.heap.size→(R.upto w.heap.size (n * sz) (R.obj++[.tok n w.heap.size cap])).I b o→R.I b o:=fun b o hb hi=>by
  rcases hi with hi | ⟨hi,_⟩
  ·exact hi
  ·omega
 refine ⟨⟨⟨by simp [St.dH,ak.upto,h.g.len],fun id g r h1 h2=>?_,fun i j ri rj b h1 h2 b1 b2=>?_,fun b o hi=>?_,fun g cs hg=>(h.g.dK g cs hg).mono e,by first | exact h.g.lo | exact Nat.le_succ_of_le h.g.lo⟩,?_,h.t.mono e,h.n,h.d.mono e⟩,?_⟩
 ·rcases av h2 with h2 | ⟨h3,rfl⟩
  ·have bT:=bz h2
   rw [h.g.len] at bT
   rcases av h1 with h1 | ⟨h4,_⟩
   ·exact (h.g.obj id g r h1 h2).mono e (fun b hb=>old b (h.g.cj ⟨id,r,h2,hb⟩)) (fun b o hb=>hI b o (h.g.cj ⟨id,r,h2,hb⟩))
   ·omega
  ·rcases av h1 with h1 | ⟨h4,rfl⟩
   ·have:=bz h1
    rw [h3,h.g.len] at this
    omega
   ·refine ⟨rfl,cur,new,hn,hm,hs,fun o' pK hi=>?_⟩
    rcases hi with hi | ⟨_,hi⟩
    ·have:=h.g.wf _ _ hi
     omega
    ·omega
 ·rcases av h1 with g1 | ⟨h3,e1⟩
  ·rcases av h2 with g2 | ⟨h4,e2⟩
   ·exact h.g.inj i j ri rj b g1 g2 b1 b2
   ·have:=h.g.cj ⟨i,ri,g1,b1⟩
    rw [e2] at b2
    simp [RO.has] at b2
    omega
  ·rcases av h2 with g2 | ⟨h4,e2⟩
   ·have:=h.g.cj ⟨j,rj,g2,b2⟩
    rw [e1] at b1
    simp [RO.has] at b1
    omega
   ·omega
 ·rcases hi with hi | ⟨rfl,_⟩
  ·have:=h.g.wf b o hi
   simp
   omega
  ·simp
 ·refine h.b.aZ e (fun k cs hk=>old _ (h.dS (.inr ⟨k,cs,hk,rfl⟩))) (fun k cs o hk=>hI _ o (h.dS (.inr ⟨k,cs,hk,rfl⟩))) (fun k cs hk hl=>?_)
  rcases lq (R:=R) (ro:=.tok n w.heap.size cap) hl with hl | hl
  ·exact hl
  ·have:=h.dS (.inr ⟨k,cs,hk,rfl⟩)
   simp [RO.has] at hl
   omega
 ·refine ⟨e,rfl,rfl,rfl,by simp,fun b hb _=>old b hb,fun b hb ho=>?_,fun b o hi hb _=>hI b o hb hi⟩
  rcases ho with ho | ho
  ·rcases lq (R:=R) (ro:=.tok n w.heap.size cap) ho with ho | ho
   ·exact .inl ho
   ·simp [RO.has] at ho
    omega
  ·exact .inr ho
theorem zU (wf:∀ b o,R.I b o→b < w.heap.size) (x:Obj) (n:Nat) (ro:RO):Ext R w (R.upto w.heap.size n (R.obj++[ro])) (w.alloc x):=
 ⟨fun _ _ h=>.inl h,fun b o h=>b8 (heap_alloc_old w x b (wf b o h)) o,fun _ r h=>⟨r,cZ h,cp.refl r⟩,.old fun b hb=>heap_alloc_old w x b hb⟩
theorem aY.I8 (h:aY E R w β s a) {cur:Array Value} {elem:TypeId} {n sz cap:Nat} (hn:n≤cap) (hm:cap≤maxLen) (hs:cur.size=cap * sz) :
  aY E (R.upto w.heap.size (n * sz) (R.obj++[.tok n w.heap.size cap])) (w.alloc (.cells cur elem)) β (s.dH (.tok n sz elem)) a ∧
  Step R w β s.boxes (R.upto w.heap.size (n * sz) (R.obj++[.tok n w.heap.size cap])) (w.alloc (.cells cur elem)) β s.boxes:=by
 have e:=zU (R:=R) (w:=w) h.g.wf (.cells cur elem) (n * sz) (.tok n w.heap.size cap)
 have old:∀ b,b < w.heap.size→(w.alloc (.cells cur elem)).heap[b]?=w.heap[b]?:=fun b hb=>heap_alloc_old w _ b hb
 have new:(w.alloc (.cells cur elem)).heap[w.heap.size]?=some (.cells cur elem (0,0)):=heap_alloc_new w _
 have hI:∀ b o,b < w.heap.size→(R.upto w.heap.size (n * sz) (R.obj++[.tok n w.heap.size cap])).I b o→R.I b o:=fun b o hb hi=>by
  rcases hi with hi | ⟨hi,_⟩
  ·exact hi
  ·omega
 refine ⟨⟨⟨by simp [St.dH,ak.upto,h.g.len],fun id g r h1 h2=>?_,fun i j ri rj b h1 h2 b1 b2=>?_,fun b o hi=>?_,fun g cs hg=>(h.g.dK g cs hg).mono e,by first | exact h.g.lo | exact Nat.le_succ_of_le h.g.lo⟩,?_,h.t.mono e,h.n,h.d.mono e⟩,?_⟩
 ·rcases av h2 with h2 | ⟨h3,rfl⟩
  ·have bT:=bz h2
   rw [h.g.len] at bT
   rcases av h1 with h1 | ⟨h4,_⟩
   ·exact (h.g.obj id g r h1 h2).mono e (fun b hb=>old b (h.g.cj ⟨id,r,h2,hb⟩)) (fun b o hb=>hI b o (h.g.cj ⟨id,r,h2,hb⟩))
   ·omega
  ·rcases av h1 with h1 | ⟨h4,rfl⟩
   ·have:=bz h1
    rw [h3,h.g.len] at this
    omega
   ·refine ⟨rfl,cur,new,hn,hm,hs,fun o' pK hi=>?_⟩
    rcases hi with hi | ⟨_,hi⟩
    ·have:=h.g.wf _ _ hi
     omega
    ·omega
 ·rcases av h1 with g1 | ⟨h3,e1⟩
  ·rcases av h2 with g2 | ⟨h4,e2⟩
   ·exact h.g.inj i j ri rj b g1 g2 b1 b2
   ·have:=h.g.cj ⟨i,ri,g1,b1⟩
    rw [e2] at b2
    simp [RO.has] at b2
    omega
  ·rcases av h2 with g2 | ⟨h4,e2⟩
   ·have:=h.g.cj ⟨j,rj,g2,b2⟩
    rw [e1] at b1
    simp [RO.has] at b1
    omega
   ·omega
 ·rcases hi with hi | ⟨rfl,_⟩
  ·have:=h.g.wf b o hi
   simp
   omega
  ·simp
 ·refine h.b.aZ e (fun k cs hk=>old _ (h.dS (.inr ⟨k,cs,hk,rfl⟩))) (fun k cs o hk=>hI _ o (h.dS (.inr ⟨k,cs,hk,rfl⟩))) (fun k cs hk hl=>?_)
  rcases lq (R:=R) (ro:=.tok n w.heap.size cap) hl with hl | hl
  ·exact hl
  ·have:=h.dS (.inr ⟨k,cs,hk,rfl⟩)
   simp [RO.has] at hl
   omega
 ·refine ⟨e,rfl,rfl,rfl,by simp,fun b hb _=>old b hb,fun b hb ho=>?_,fun b o hi hb _=>hI b o hb hi⟩
  rcases ho with ho | ho
  ·rcases lq (R:=R) (ro:=.tok n w.heap.size cap) ho with ho | ho
   ·exact .inl ho
   ·simp [RO.has] at ho
    omega
  ·exact .inr ho
theorem rI (h:aY E R w β s a) (t:TypeId) (len:Nat) (parts:Array (Nat × Operand)) (ho:o.op=.buildSlice t len parts) {k:LK} {esz:Nat} {es:List AV} (hv:bQ E s t len parts.toList=some (.list k esz es)) {i:TI} (hi:E.ti t=some i) {elem bq na:Nat} {ag:Bool} {z:Option AV} (hk:i.k=.sl elem bq ag na z) (hm:len≤65536) :
  bH E R w β s a o ((s.dH (.tok len esz elem)).put o.dst (.v (.list (.own s.G.length) esz es))):=by
 obtain ⟨es',Mm,us,QN,QK,bj,g2,hlen,u2,u3,i',TP,PO,z',oI,ja⟩:=gV h t len parts ho hv
 cases QK
 rw [hi] at oI
 cases oI
 rw [hk] at ja
 cases ja
 have QO:us.length=len * esz:=by rw [← u2.length,cE g2,hlen]
 obtain ⟨r1,r2⟩:=h.I8 (cur:=⟨us⟩) (elem:=elem) (n:=len) (sz:=esz) (cap:=len) (Nat.le_refl _) (by simp [maxLen]; omega) (by simpa using QO)
 refine ⟨_,.slice (some ⟨w.heap.size,0,none⟩) len len,_,_,β,bj,.inl rfl,r1.put o.dst (x:=.v (.list (.own s.G.length) esz es)) ?_,by rw [aS]; exact r2⟩
 refine Rel.list (lu g2 (ew.make (u2.mono r2.ext) u3 (fun j x hx=>?_) (fun j hj=>.inr ⟨rfl,?_⟩))) hlen.symm (Nat.le_refl _) ⟨.tok len w.heap.size len,ft h _,?_⟩
 ·rw [iH (heap_alloc_new w _)]
  simpa using hx
 ·rw [cE g2,hlen] at hj
  omega
 ·exact ⟨Nat.le_refl _,fun _=>⟨rfl,rfl,rfl⟩⟩
theorem aY.Gl (h:aY E R w β s a) {cur:Array Value} {elem e0:TypeId} {n sz cap id f:Nat} {r0:RO} (hg:nth s.G id=some (.tok f sz e0)) (bM:nth R.obj id=some r0) (hf:∀ b c,cp r0 (.tok n b c)) (hn:n≤cap) (hm:cap≤maxLen) (hs:cur.size=cap * sz) :
  aY E (R.upto w.heap.size (n * sz) (az R.obj id (.tok n w.heap.size cap))) (w.drew.alloc (.cells cur elem)) β (s.bO (az s.G id (.tok n sz elem))) a ∧
  Step R w β s.boxes (R.upto w.heap.size (n * sz) (az R.obj id (.tok n w.heap.size cap))) (w.drew.alloc (.cells cur elem)) β s.boxes:=by
 have e:=BV (R:=R) (w:=w) (n:=n * sz) h.g.wf (.cells cur elem) bM w.heap.size cap (hf _ _)
 have old:∀ b,b < w.heap.size→(w.drew.alloc (.cells cur elem)).heap[b]?=w.heap[b]?:=fun b hb=>heap_alloc_old w.drew _ b hb
 have new:(w.drew.alloc (.cells cur elem)).heap[w.heap.size]?=some (.cells cur elem (0,0)):=heap_alloc_new w.drew _
 have hI:∀ b o,b < w.heap.size→(R.upto w.heap.size (n * sz) (az R.obj id (.tok n w.heap.size cap))).I b o→R.I b o:=fun b o hb hi=>by
  rcases hi with hi | ⟨hi,_⟩
  ·exact hi
  ·omega
 have live:∀ b,b < w.heap.size→Live (R.upto w.heap.size (n * sz) (az R.obj id (.tok n w.heap.size cap))) b→Live R b:=fun b hb hl=>by
  obtain ⟨i,r,h1,h2⟩:=hl
  rcases aC bM h1 with ⟨_,rfl⟩ | ⟨_,h1⟩
  ·simp [RO.has] at h2
   omega
  ·exact ⟨i,r,h1,h2⟩
 refine ⟨⟨⟨by simp [St.bO,ak.upto,h.g.len],fun i gg r h1 h2=>?_,fun i j ri rj b h1 h2 b1 b2=>?_,fun b o hi=>?_,fun g cs hg=>(h.g.dK g cs hg).mono e,by first | exact h.g.lo | exact Nat.le_succ_of_le h.g.lo⟩,?_,h.t.mono e,h.n,h.d.mono e⟩,?_⟩
 ·rcases aC bM h2 with ⟨rfl,rfl⟩ | ⟨cM,h2⟩
  ·simp only [St.bO] at h1
   rw [aG hg] at h1
   cases h1
   refine ⟨rfl,cur,new,hn,hm,hs,fun o' pK hi=>?_⟩
   rcases hi with hi | ⟨_,hi⟩
   ·have:=h.g.wf _ _ hi
    omega
   ·omega
  ·simp only [St.bO] at h1
   rw [bt (Ne.symm cM)] at h1
   exact (h.g.obj i gg r h1 h2).mono e (fun b hb=>old b (h.g.cj ⟨i,r,h2,hb⟩)) (fun b o hb=>hI b o (h.g.cj ⟨i,r,h2,hb⟩))
 ·rcases aC bM h1 with ⟨g3,e1⟩ | ⟨g3,g1⟩
  ·rcases aC bM h2 with ⟨g4,e2⟩ | ⟨g4,g2⟩
   ·omega
   ·have:=h.g.cj ⟨j,rj,g2,b2⟩
    rw [e1] at b1
    simp [RO.has] at b1
    omega
  ·rcases aC bM h2 with ⟨g4,e2⟩ | ⟨g4,g2⟩
   ·have:=h.g.cj ⟨i,ri,g1,b1⟩
    rw [e2] at b2
    simp [RO.has] at b2
    omega
   ·exact h.g.inj i j ri rj b g1 g2 b1 b2
 ·rcases hi with hi | ⟨rfl,_⟩
  ·have:=h.g.wf b o hi
   simp
   omega
  ·simp
 ·exact h.b.aZ e (fun k cs hk=>old _ (h.dS (.inr ⟨k,cs,hk,rfl⟩))) (fun k cs o hk=>hI _ o (h.dS (.inr ⟨k,cs,hk,rfl⟩))) (fun k cs hk hl=>live _ (h.dS (.inr ⟨k,cs,hk,rfl⟩)) hl)
 ·refine ⟨e,rfl,rfl,rfl,by simp,fun b hb _=>old b hb,fun b hb ho=>?_,fun b o hi hb _=>hI b o hb hi⟩
  rcases ho with ho | ho
  ·exact .inl (live b hb ho)
  ·exact .inr ho
theorem aY.I9 (h:aY E R w β s a) {cur:Array Value} {news:List Value} {elem:TypeId} {n sz id f g c:Nat} (hg:nth s.G id=some (.tok f sz elem)) (bM:nth R.obj id=some (.tok f g c)) (hf:f < n) (hn:n≤c)
  (jb:w.heap[g]?=some (.cells cur elem (0,0))) (hs:cur.size=c * sz) (hm:c≤maxLen) (hl:f * sz+news.length=n * sz) :
  Ext R w (R.upto g (n * sz) (az R.obj id (.tok n g c))) (w.setRow g (cur.toList.take (f * sz)++news++cur.toList.drop (f * sz+news.length)).toArray) ∧
  aY E (R.upto g (n * sz) (az R.obj id (.tok n g c))) (w.setRow g (cur.toList.take (f * sz)++news++cur.toList.drop (f * sz+news.length)).toArray) β (s.bO (az s.G id (.tok n sz elem))) a ∧
  Step R w β s.boxes (R.upto g (n * sz) (az R.obj id (.tok n g c))) (w.setRow g (cur.toList.take (f * sz)++news++cur.toList.drop (f * sz+news.length)).toArray) β s.boxes:=by
 obtain ⟨_,zV,K2,_,_,_,jX⟩:=h.g.obj id _ _ hg bM
 rw [jb] at K2
 cases K2
 have hle:n * sz≤c * sz:=Nat.mul_le_mul_right _ hn
 generalize sT:(cur.toList.take (f * sz)++news++cur.toList.drop (f * sz+news.length)).toArray=cur2
 have old:∀ b,b≠g→(w.setRow g cur2).heap[b]?=w.heap[b]?:=fun b hb=>setRow_other w g b cur2 hb
 have new:(w.setRow g cur2).heap[g]?=some (.cells cur2 elem (0,0)):=setRow_heap w g cur cur2 elem (0,0) jb
 have hlen:f * sz≤cur.toList.length:=by simp; omega
 have eC:cur2.size=c * sz:=by
  rw [← sT]
  simp
  omega
 have sU:Live R g:=⟨id,_,bM,rfl⟩
 have e:Ext R w (R.upto g (n * sz) (az R.obj id (.tok n g c))) (w.setRow g cur2):=by
  refine ⟨fun _ _ hi=>.inl hi,fun b o hi=>?_,fun i r hr=>?_,fun b r hb=>⟨r,(old b fun e=>by subst e; rw [jb] at hb; cases hb).trans hb,rfl,rfl,rfl,rfl,rfl⟩⟩
  ·by_cases hb:b=g
   ·subst hb
    have ho:o < f * sz:=Nat.lt_of_not_le fun hle=>jX o hle hi
    simp only [World.cell?,new,jb]
    have:cur2[o]?=cur[o]?:=by
     rw [← sT,List.append_assoc]
     simp only [List.getElem?_toArray]
     rw [List.getElem?_append_left (by simp; omega),List.getElem?_take,if_pos ho,Array.getElem?_toList]
    simp [this]
   ·exact b8 (old b hb) o
  ·by_cases ei:id=i
   ·subst ei
    rw [bM] at hr
    cases hr
    exact ⟨_,aG bM,by omega,fun e=>by omega⟩
   ·exact ⟨r,by rw [ak.upto,bt ei]; exact hr,cp.refl r⟩
 have hI:∀ b o,b≠g→(R.upto g (n * sz) (az R.obj id (.tok n g c))).I b o→R.I b o:=fun b o hb hi=>by
  rcases hi with hi | ⟨hi,_⟩
  ·exact hi
  ·exact absurd hi hb
 have live:∀ b,Live (R.upto g (n * sz) (az R.obj id (.tok n g c))) b→Live R b:=fun b hl=>by
  obtain ⟨i,r,h1,h2⟩:=hl
  rcases aC bM h1 with ⟨_,rfl⟩ | ⟨_,h1⟩
  ·exact ⟨id,_,bM,h2⟩
  ·exact ⟨i,r,h1,h2⟩
 have pn:∀ k cs,dy s.boxes k=some cs→β k≠g:=fun k cs hk eq=>(h.b.box k cs hk).2.2 (eq ▸ sU)
 refine ⟨e,⟨⟨by simp [St.bO,ak.upto,h.g.len],fun i gg r h1 h2=>?_,fun i j ri rj b h1 h2 b1 b2=>?_,fun b o hi=>?_,fun g cs hg=>(h.g.dK g cs hg).mono e,by first | exact h.g.lo | exact Nat.le_succ_of_le h.g.lo⟩,?_,h.t.mono e,h.n,h.d.mono e⟩,?_⟩
 ·rcases aC bM h2 with ⟨rfl,rfl⟩ | ⟨cM,h2⟩
  ·simp only [St.bO] at h1
   rw [aG hg] at h1
   cases h1
   refine ⟨rfl,cur2,new,hn,hm,eC,fun o' pK hi=>?_⟩
   rcases hi with hi | ⟨_,hi⟩
   ·exact jX o' (Nat.le_trans (Nat.mul_le_mul_right _ (Nat.le_of_lt hf)) pK) hi
   ·omega
  ·simp only [St.bO] at h1
   rw [bt (Ne.symm cM)] at h1
   have Mr:∀ b,r.has b→b≠g:=fun b hb eq=>cM (h.g.inj i id _ _ b h2 bM hb (by rw [eq]; rfl))
   exact (h.g.obj i gg r h1 h2).mono e (fun b hb=>old b (Mr b hb)) (fun b o hb=>hI b o (Mr b hb))
 ·rcases aC bM h1 with ⟨g3,e1⟩ | ⟨g3,g1⟩
  ·rcases aC bM h2 with ⟨g4,e2⟩ | ⟨g4,g2⟩
   ·omega
   ·rw [e1] at b1
    exact g3.trans (h.g.inj id j _ _ b bM g2 b1 b2)
  ·rcases aC bM h2 with ⟨g4,e2⟩ | ⟨g4,g2⟩
   ·rw [e2] at b2
    exact (h.g.inj i id _ _ b g1 bM b1 b2).trans g4.symm
   ·exact h.g.inj i j ri rj b g1 g2 b1 b2
 ·rcases hi with hi | ⟨rfl,_⟩
  ·have:=h.g.wf b o hi
   simpa using this
  ·have:=a8 jb
   simpa using this
 ·exact h.b.aZ e (fun k cs hk=>old _ (pn k cs hk)) (fun k cs o hk=>hI _ o (pn k cs hk)) (fun k cs hk hl=>live _ hl)
 ·refine ⟨e,rfl,rfl,rfl,by simp,fun b hb rJ=>old b (fun eq=>rJ (.inl (eq ▸ sU))),fun b hb ho=>?_,fun b o hi hb rJ=>hI b o (fun eq=>rJ (.inl (eq ▸ sU))) hi⟩
  rcases ho with ho | ho
  ·exact .inl (live b ho)
  ·exact .inr ho
structure One (w w':World) (x:Obj):Prop where
 old:∀ b,b < w.heap.size→w'.heap[b]?=w.heap[b]?
 new:w'.heap[w.heap.size]?=some x
 size:w'.heap.size=w.heap.size+1
 os:w'.os=w.os
 tape:w'.tape=w.tape
 output:w'.output=w.output
 drawn:w.drawn≤w'.drawn
theorem One.alloc (w:World) (x:Obj):One w (w.alloc x) x:=⟨fun b hb=>heap_alloc_old w x b hb,heap_alloc_new w x,by simp,rfl,rfl,rfl,Nat.le_refl _⟩
theorem One.drew (w:World) (x:Obj):One w (w.drew.alloc x) x:=⟨fun b hb=>heap_alloc_old w.drew x b hb,heap_alloc_new w.drew x,by simp,rfl,rfl,rfl,Nat.le_succ _⟩
theorem Ja {w':World} {x:Obj} (o1:One w w' x) (wf:∀ b o,R.I b o→b < w.heap.size) {n id:Nat} {r0 r1:RO} (bM:nth R.obj id=some r0) (hle:cp r0 r1):Ext R w (R.upto w.heap.size n (az R.obj id r1)) w':=
 ⟨fun _ _ h=>.inl h,fun b o h=>b8 (o1.old b (wf b o h)) o,fun i r h=>by
  by_cases e:id=i
  ·subst e
   rw [bM] at h
   cases h
   exact ⟨_,aG bM,hle⟩
  ·exact ⟨r,by rw [ak.upto,bt e]; exact h,cp.refl r⟩,.old fun b hb=>o1.old b hb⟩
theorem aY.Ms (h:aY E R w β s a) {w':World} {x:Obj} (o1:One w w' x) {n id:Nat} {r0 r1:RO} {FU go:GO} (hg:nth s.G id=some FU) (bM:nth R.obj id=some r0) (hle:cp r0 r1) (uc:∀ b,r1.has b→b=w.heap.size∨r0.has b)
  (gS:gd (R.upto w.heap.size n (az R.obj id r1)) w' go r1) :
  aY E (R.upto w.heap.size n (az R.obj id r1)) w' β (s.bO (az s.G id go)) a∧Step R w β s.boxes (R.upto w.heap.size n (az R.obj id r1)) w' β s.boxes:=by
 have e:=Ja (R:=R) (n:=n) o1 h.g.wf bM hle
 have hI:∀ b o,b < w.heap.size→(R.upto w.heap.size n (az R.obj id r1)).I b o→R.I b o:=fun b o hb hi=>by
  rcases hi with hi | ⟨hi,_⟩
  ·exact hi
  ·omega
 have live:∀ b,b < w.heap.size→Live (R.upto w.heap.size n (az R.obj id r1)) b→Live R b:=fun b hb hl=>by
  obtain ⟨i,r,h1,h2⟩:=hl
  rcases aC bM h1 with ⟨_,rfl⟩ | ⟨_,h1⟩
  ·rcases uc b h2 with h3 | h3
   ·omega
   ·exact ⟨id,r0,bM,h3⟩
  ·exact ⟨i,r,h1,h2⟩
 refine ⟨⟨⟨by simp [St.bO,ak.upto,h.g.len],fun i gg r h1 h2=>?_,fun i j ri rj b h1 h2 b1 b2=>?_,fun b o hi=>?_,fun g cs hg=>(h.g.dK g cs hg).mono e,Nat.le_trans h.g.lo o1.drawn⟩,?_,h.t.mono e,h.n,h.d.mono e⟩,?_⟩
 ·rcases aC bM h2 with ⟨rfl,rfl⟩ | ⟨cM,h2⟩
  ·simp only [St.bO] at h1
   rw [aG hg] at h1
   cases h1
   exact gS
  ·simp only [St.bO] at h1
   rw [bt (Ne.symm cM)] at h1
   exact (h.g.obj i gg r h1 h2).mono e (fun b hb=>o1.old b (h.g.cj ⟨i,r,h2,hb⟩)) (fun b o hb=>hI b o (h.g.cj ⟨i,r,h2,hb⟩))
 ·rcases aC bM h1 with ⟨g3,e1⟩ | ⟨g3,g1⟩
  ·rcases aC bM h2 with ⟨g4,e2⟩ | ⟨g4,g2⟩
   ·omega
   ·rw [e1] at b1
    rcases uc b b1 with b3 | b3
    ·have:=h.g.cj ⟨j,rj,g2,b2⟩
     omega
    ·exact g3.trans (h.g.inj id j _ _ b bM g2 b3 b2)
  ·rcases aC bM h2 with ⟨g4,e2⟩ | ⟨g4,g2⟩
   ·rw [e2] at b2
    rcases uc b b2 with b3 | b3
    ·have:=h.g.cj ⟨i,ri,g1,b1⟩
     omega
    ·exact (h.g.inj i id _ _ b g1 bM b1 b3).trans g4.symm
   ·exact h.g.inj i j ri rj b g1 g2 b1 b2
 ·rcases hi with hi | ⟨rfl,_⟩
  ·have:=h.g.wf b o hi
   rw [o1.size]
   omega
  ·rw [o1.size]; omega
 ·exact h.b.aZ e (fun k cs hk=>o1.old _ (h.dS (.inr ⟨k,cs,hk,rfl⟩))) (fun k cs o hk=>hI _ o (h.dS (.inr ⟨k,cs,hk,rfl⟩))) (fun k cs hk hl=>live _ (h.dS (.inr ⟨k,cs,hk,rfl⟩)) hl)
 ·refine ⟨e,o1.os,o1.tape,o1.output,by rw [o1.size]; omega,fun b hb _=>o1.old b hb,fun b hb ho=>?_,fun b o hi hb _=>hI b o hb hi⟩
  rcases ho with ho | ho
  ·exact .inl (live b hb ho)
  ·exact .inr ho
theorem aY.Jb (h:aY E R w β s a) {cur cur2:Array Value} {elem:TypeId} {n id g:Nat} {r0 r1:RO} {FU go:GO} (hg:nth s.G id=some FU) (bM:nth R.obj id=some r0) (PQ:r0.has g) (hle:cp r0 r1) (uc:∀ b,r1.has b→r0.has b)
  (jb:w.heap[g]?=some (.cells cur elem (0,0))) (uf:∀ o,R.I g o→cur2[o]?=cur[o]?)
  (gS:Ext R w (R.upto g n (az R.obj id r1)) (w.setRow g cur2)→gd (R.upto g n (az R.obj id r1)) (w.setRow g cur2) go r1) :
  Ext R w (R.upto g n (az R.obj id r1)) (w.setRow g cur2)∧aY E (R.upto g n (az R.obj id r1)) (w.setRow g cur2) β (s.bO (az s.G id go)) a∧Step R w β s.boxes (R.upto g n (az R.obj id r1)) (w.setRow g cur2) β s.boxes:=by
 have old:∀ b,b≠g→(w.setRow g cur2).heap[b]?=w.heap[b]?:=fun b hb=>setRow_other w g b cur2 hb
 have new:(w.setRow g cur2).heap[g]?=some (.cells cur2 elem (0,0)):=setRow_heap w g cur cur2 elem (0,0) jb
 have sU:Live R g:=⟨id,_,bM,PQ⟩
 have e:Ext R w (R.upto g n (az R.obj id r1)) (w.setRow g cur2):=by
  refine ⟨fun _ _ hi=>.inl hi,fun b o hi=>?_,fun i r hr=>?_,fun b r hb=>⟨r,(old b fun e=>by subst e; rw [jb] at hb; cases hb).trans hb,rfl,rfl,rfl,rfl,rfl⟩⟩
  ·by_cases hb:b=g
   ·subst hb
    simp only [World.cell?,new,jb,uf o hi]
   ·exact b8 (old b hb) o
  ·by_cases ei:id=i
   ·subst ei
    rw [bM] at hr
    cases hr
    exact ⟨_,aG bM,hle⟩
   ·exact ⟨r,by rw [ak.upto,bt ei]; exact hr,cp.refl r⟩
 have hI:∀ b o,b≠g→(R.upto g n (az R.obj id r1)).I b o→R.I b o:=fun b o hb hi=>by
  rcases hi with hi | ⟨hi,_⟩
  ·exact hi
  ·exact absurd hi hb
 have live:∀ b,Live (R.upto g n (az R.obj id r1)) b→Live R b:=fun b hl=>by
  obtain ⟨i,r,h1,h2⟩:=hl
  rcases aC bM h1 with ⟨_,rfl⟩ | ⟨_,h1⟩
  ·exact ⟨id,_,bM,uc b h2⟩
  ·exact ⟨i,r,h1,h2⟩
 have pn:∀ k cs,dy s.boxes k=some cs→β k≠g:=fun k cs hk eq=>(h.b.box k cs hk).2.2 (eq ▸ sU)
 refine ⟨e,⟨⟨by simp [St.bO,ak.upto,h.g.len],fun i gg r h1 h2=>?_,fun i j ri rj b h1 h2 b1 b2=>?_,fun b o hi=>?_,fun g cs hg=>(h.g.dK g cs hg).mono e,h.g.lo⟩,?_,h.t.mono e,h.n,h.d.mono e⟩,?_⟩
 ·rcases aC bM h2 with ⟨rfl,rfl⟩ | ⟨cM,h2⟩
  ·simp only [St.bO] at h1
   rw [aG hg] at h1
   cases h1
   exact gS e
  ·simp only [St.bO] at h1
   rw [bt (Ne.symm cM)] at h1
   have Mr:∀ b,r.has b→b≠g:=fun b hb eq=>cM (h.g.inj i id _ _ b h2 bM hb (by rw [eq]; exact PQ))
   exact (h.g.obj i gg r h1 h2).mono e (fun b hb=>old b (Mr b hb)) (fun b o hb=>hI b o (Mr b hb))
 ·rcases aC bM h1 with ⟨g3,e1⟩ | ⟨g3,g1⟩
  ·rcases aC bM h2 with ⟨g4,e2⟩ | ⟨g4,g2⟩
   ·omega
   ·rw [e1] at b1
    exact g3.trans (h.g.inj id j _ _ b bM g2 (uc b b1) b2)
  ·rcases aC bM h2 with ⟨g4,e2⟩ | ⟨g4,g2⟩
   ·rw [e2] at b2
    exact (h.g.inj i id _ _ b g1 bM b1 (uc b b2)).trans g4.symm
   ·exact h.g.inj i j ri rj b g1 g2 b1 b2
 ·rcases hi with hi | ⟨rfl,_⟩
  ·have:=h.g.wf b o hi
   simpa using this
  ·have:=a8 jb
   simpa using this
 ·exact h.b.aZ e (fun k cs hk=>old _ (pn k cs hk)) (fun k cs o hk=>hI _ o (pn k cs hk)) (fun k cs hk hl=>live _ hl)
 ·refine ⟨e,rfl,rfl,rfl,by simp,fun b hb rJ=>old b (fun eq=>rJ (.inl (eq ▸ sU))),fun b hb ho=>?_,fun b o hi hb rJ=>hI b o (fun eq=>rJ (.inl (eq ▸ sU))) hi⟩
  rcases ho with ho | ho
  ·exact .inl (live b ho)
  ·exact .inr ho
theorem rC.set {ts:List TR} {j:Nat} {t t':TR} (ht:nth ts j=some t) (hle:kW t t'):rC ts (az ts j t'):=fun i u hu=>by
 by_cases e:j=i
 ·subst e
  rw [ht] at hu
  cases hu
  exact ⟨t',aG ht,hle⟩
 ·exact ⟨u,by rw [bt e]; exact hu,kW.refl u⟩
theorem Dw {ts:List TR} {j n g c b:Nat} (h:RO.has (.aX (az ts j (.tok n g c))) b):b=g∨RO.has (.aX ts) b:=by
 obtain ⟨i,f,c',hi⟩:=h
 rcases cY hi with ⟨_,e,_⟩ | ⟨_,hi⟩
 ·cases e; exact .inl rfl
 ·exact .inr ⟨i,f,c',hi⟩
theorem xi.of {R':ak} {w':World} {sz f:Nat} {e:TypeId} {t:TR} (h:xi R w sz e f t) (hold:∀ f b c,t=.tok f b c→w'.heap[b]?=w.heap[b]?∧∀ o,R'.I b o→R.I b o):xi R' w' sz e f t:=by
 cases t with
 | bn=>exact h
 | full f'=>exact h
 | tok f' b c=>
  obtain ⟨h0,cur,h1,h2,h3,h4,h5⟩:=h
  obtain ⟨k1,k2⟩:=hold f' b c rfl
  exact ⟨h0,cur,k1.trans h1,h2,h3,h4,fun o ho hi=>h5 o ho (k2 o hi)⟩
theorem tM.set {R':ak} {w':World} {sz:Nat} {e:TypeId} {fs:List Nat} {ts:List TR} (h:tM R w sz e fs ts) {j n g c:Nat} (sT:xi R' w' sz e n (.tok n g c)) (Gm:∀ i f c,nth ts i=some (.tok f g c)→i=j)
  (hold:∀ i f b c,i≠j→nth ts i=some (.tok f b c)→w'.heap[b]?=w.heap[b]?∧∀ o,R'.I b o→R.I b o):tM R' w' sz e (az fs j n) (az ts j (.tok n g c)):=by
 obtain ⟨h1,h2,h3⟩:=h
 refine ⟨by simp [h1],fun i i' f1 b c1 f2 c2 q1 q2=>?_,fun i f1 t1 q1 q2=>?_⟩
 ·rcases cY q1 with ⟨n1,e1,_⟩ | ⟨n1,q1⟩
  ·cases e1
   rcases cY q2 with ⟨n2,_,_⟩ | ⟨n2,q2⟩
   ·exact n1.symm.trans n2
   ·exact absurd (Gm _ _ _ q2).symm n2
  ·rcases cY q2 with ⟨n2,e2,_⟩ | ⟨n2,q2⟩
   ·cases e2
    exact (Gm _ _ _ q1).trans n2
   ·exact h2 i i' _ _ _ _ _ q1 q2
 ·rcases cY q1 with ⟨n1,e1,_⟩ | ⟨n1,q1⟩
  ·rcases cY q2 with ⟨_,e2,_⟩ | ⟨n2,_⟩
   ·subst e1 e2
    exact sT
   ·exact absurd n1 n2
  ·rcases cY q2 with ⟨n2,_,_⟩ | ⟨n2,q2⟩
   ·exact absurd n2 n1
   ·exact (h3 i f1 t1 q1 q2).of fun f b c ht=>by subst ht; exact hold i f b c (Ne.symm n2) q2
end ops
end Go.Am
