/- The abstract machine: what it does is what the model does: slices that are built and cut. -/
import Derived.Test.YtldcljfjjoidhaaGreatDoorAmKB
import Derived.IntWalk
set_option linter.all false
namespace Go.Am
open Go
theorem cS (l r:List AV):ay (l++r)=ay l++ay r:=by
 induction l with
 | nil=>rfl
 | cons e l ih=>simp [ay,ih]
theorem dK {sz:Nat} {es:List AV} (h:ji sz es):(ay es).length=es.length * sz:=by
 induction es with
 | nil=>simp [ay]
 | cons e es ih=>
  have h1:=(h e (by simp)).1
  have:=ih (fun x hx=>h x (by simp [hx]))
  simp only [ay,List.length_append,this,h1,List.length_cons,Nat.add_mul]
  omega
section rel
variable {R:ao} {w:World}
theorem me {b sz:Nat}:∀ {es:List AV} {o:Nat},ji sz es→dO R w b o (ay es)→fY R w b o sz es
 | [],_,_,_=>.nil
 | e :: es,o,h,hc=>by
  obtain ⟨h1,h2,h3⟩:=h e (by simp)
  obtain ⟨vs,k1,k2,k3,k4⟩:=hc.get
  have hd:=hc.drop sz
  have Xu:(ay (e :: es)).drop sz=ay es:=by simp only [ay]; rw [← h1,List.drop_left]
  have Jd:(ay (e :: es)).take sz=e.cells:=by simp only [ay]; rw [← h1,List.take_left]
  rw [Xu] at hd
  refine .cons h1 h2 h3 ?_ (me (fun x hx=>h x (by simp [hx])) hd)
  have kt:=k1.take sz
  rw [Jd] at kt
  refine .make kt (fun v hv=>k2 v (List.mem_of_mem_take hv)) (fun j v hv=>k3 j v ?_) (fun j hj=>k4 j ?_)
  ·rw [List.getElem?_take] at hv
   split at hv
   ·exact hv
   ·cases hv
  ·simp only [ay,List.length_append]
   omega
theorem vE {b sz:Nat}:∀ {es:List AV} {o:Nat},fY R w b o sz es→ji sz es∧∃ vs,aM R w (ay es) vs∧(∀ v∈vs,v.oneCell'=true)∧(∀ j v,vs[j]?=some v→w.cell? ⟨b,o+j,none⟩=some v)∧∀ j,j < es.length * sz→R.I b (o+j)
 | [],o,_=>⟨fun e he=>by simp at he,[],.nil,by simp,by simp,by simp⟩
 | e :: es,o,h=>by
  cases h with
  | cons hl ht hk hc t=>
   obtain ⟨g0,vs,g1,g2,g3,g4⟩:=vE t
   obtain ⟨us,f1,f2,f3,f4⟩:=hc.get
   have hlen:us.length=sz:=by rw [← f1.length,hl]
   refine ⟨fun x hx=>?_,us++vs,f1.append g1,fun v hv=>?_,fun j v hv=>?_,fun j hj=>?_⟩
   ·rcases List.mem_cons.1 hx with rfl | hx
    ·exact ⟨hl,ht,hk⟩
    ·exact g0 x hx
   ·rcases List.mem_append.1 hv with hv | hv
    ·exact f2 v hv
    ·exact g2 v hv
   ·by_cases hj:j < sz
    ·rw [List.getElem?_append_left (by omega)] at hv
     exact f3 j v hv
    ·rw [List.getElem?_append_right (by omega),hlen] at hv
     have:=g3 _ v hv
     rwa [show o+sz+(j - sz)=o+j by omega] at this
   ·by_cases M3:j < sz
    ·exact f4 j (by omega)
    ·have:=g4 (j - sz) (by simp only [List.length_cons,Nat.add_mul] at hj; omega)
     rwa [show o+sz+(j - sz)=o+j by omega] at this
theorem zn {b sz:Nat}:∀ (n:Nat) {es:List AV} {o:Nat},fY R w b o sz es→fY R w b (o+n * sz) sz (es.drop n)
 | 0,es,o,h=>by simpa using h
 | n+1,[],o,h=>by simpa using fY.nil
 | n+1,e :: es,o,h=>by
  cases h with
  | cons hl ht hk hc t=>
   have:=zn n t
   rw [show o+sz+n * sz=o+(n+1) * sz by rw [Nat.add_mul]; omega] at this
   simpa using this
theorem sS {b sz:Nat}:∀ (n:Nat) {es:List AV} {o:Nat},fY R w b o sz es→fY R w b o sz (es.take n)
 | 0,es,o,h=>by simpa using fY.nil
 | n+1,[],o,h=>by simpa using fY.nil
 | n+1,e :: es,o,h=>by
  cases h with
  | cons hl ht hk hc t=>simpa using fY.cons hl ht hk hc (sS n t)
end rel
theorem fH {sz n:Nat} {z:AV} (h1:z.cells.length=sz) (h2:z.aX=true) (h3:z.closed=true):ji sz (List.replicate n z):=fun e he=>by
 rw [List.mem_replicate] at he
 rw [he.2]
 exact ⟨h1,h2,h3⟩
theorem vF {sz:Nat}:∀ {es:List AV} {i:Nat} {v:AV},ji sz es→i < es.length→v.cells.length=sz→ay (aB es i v)=bg (ay es) (i * sz) v.cells
 | [],i,v,_,h,_=>by simp at h
 | e :: es,0,v,h,_,hv=>by
  have h1:=(h e (by simp)).1
  simp only [aB,ay,Nat.zero_mul]
  rw [ea _ 0 _ (by simp; omega)]
  simp only [List.take_zero,List.nil_append,Nat.zero_add]
  rw [hv,← h1,List.drop_left]
 | e :: es,i+1,v,h,hi,hv=>by
  have h1:=(h e (by simp)).1
  have IT:ji sz es:=fun x hx=>h x (by simp [hx])
  have ih:=vF (i:=i) (v:=v) IT (by simpa using hi) hv
  have bV:i < es.length:=by simpa using hi
  have hle:i * sz+sz≤es.length * sz:=by rw [← Nat.succ_mul]; exact Nat.mul_le_mul_right _ bV
  have hl:=dK IT
  simp only [aB,ay]
  have e1:(i+1) * sz=e.cells.length+i * sz:=by rw [h1,Nat.succ_mul]; omega
  have e2:List.take (e.cells.length+i * sz) e.cells=e.cells:=List.take_of_length_le (by omega)
  rw [ih,ea _ _ _ (by omega),e1,ea _ _ _ (by simp only [List.length_append]; omega)]
  rw [List.take_append,e2,Nat.add_assoc,List.drop_append,List.drop_of_length_le (by omega:e.cells.length≤e.cells.length+(i * sz+v.cells.length))]
  simp [Nat.add_sub_cancel_left]
theorem Hs {sz:Nat} {es:List AV} {i:Nat} {v:AV} (h:ji sz es) (h1:v.cells.length=sz) (h2:v.aX=true) (h3:v.closed=true):ji sz (aB es i v):=fun e he=>by
 rw [fu] at he
 rcases List.mem_or_eq_of_mem_set he with he | rfl
 ·exact h e he
 ·exact ⟨h1,h2,h3⟩
theorem tN {sz:Nat}:∀ {ps:List (Nat × AV)} {es es':List AV},BT sz es ps=some es'→ji sz es →
  tJ (fun i=>some (i * sz,sz)) (ay es) ps=some (ay es')∧ji sz es'∧es'.length=es.length
 | [],es,es',h,hk=>by simp [BT] at h; subst h; exact ⟨rfl,hk,rfl⟩
 | (i,v) :: ps,es,es',h,hk=>by
  unfold BT at h
  split at h
  ·rename_i hc
   simp only [Bool.and_eq_true] at hc
   obtain ⟨⟨⟨hn,hl⟩,hi⟩,zo⟩:=hc
   have hl':=Nat.eq_of_beq_eq_true hl
   have sQ:=Nat.le_of_ble_eq_true hi
   obtain ⟨g1,g2,g3⟩:=tN h (Hs hk hl' hn zo)
   refine ⟨?_,g2,by simpa using g3⟩
   unfold tJ
   have hle:Nat.ble (i * sz+sz) (ay es).length=true:=by
    apply Nat.ble_eq_true_of_le
    rw [dK hk,← Nat.succ_mul]
    exact Nat.mul_le_mul_right _ sQ
   simp only [hn,hl,hle,Bool.and_self,if_true]
   rw [← vF hk (by omega) hl']
   exact g1
  ·cases h
section ops
variable {E:Env} {R:ao} {w:World} {β:Nat→Nat} {s:St} {a:Act} {o:Oper}
def ao.WI (R:ao) (b:Nat):ao:=⟨fun b' o=>R.I b' o∨b'=b,R.obj⟩
theorem AB (wf:∀ b o,R.I b o→b < w.heap.size) (x:Obj):Ext R w (R.WI w.heap.size) (w.alloc x):=
 ⟨fun _ _ h=>.inl h,fun b o h=>b8 (heap_alloc_old w x b (wf b o h)) o,fun _ ro h=>⟨ro,h,cD.refl ro⟩,.old fun b hb=>heap_alloc_old w x b hb⟩
theorem bn.WI (h:bn E R w β s a) (x:Obj):bn E (R.WI w.heap.size) (w.alloc x) β s a:=
 h.bE (AB h.g.wf x) rfl (fun b hb=>heap_alloc_old w x b (h.dY hb)) (fun b o hb hi=>by
  rcases hi with hi | hi
  ·exact hi
  ·have:=h.dY hb
   omega) (fun b o hi=>by
  rcases hi with hi | hi
  ·have:=h.g.wf b o hi
   simp
   omega
  ·simp
   omega)
theorem Je (h:bn E R w β s a) (x:Obj):Step R w β s.boxes (R.WI w.heap.size) (w.alloc x) β s.boxes:=
 ⟨AB h.g.wf x,rfl,rfl,rfl,by simp,fun b hb _=>heap_alloc_old w x b hb,fun _ _ ho=>ho,fun b o hi hb _=>by
  rcases hi with hi | hi
  ·exact hi
  ·omega⟩
theorem og (z:Array Value):∀ (n:Nat),(((Array.range (n * z.size)).map fun i=>z[i % z.size]!)).toList=(List.replicate n z.toList).flatten
 | 0=>by simp
 | n+1=>by
  have ih:=og z n
  simp only [Array.toList_map,Array.toList_range] at ih ⊢
  rw [Nat.add_mul,Nat.one_mul,List.range_add,List.map_append,ih,List.replicate_succ',List.flatten_append]
  congr 1
  simp only [List.map_map,List.flatten_cons,List.flatten_nil,List.append_nil]
  apply List.ext_getElem?
  intro i
  by_cases hi:i < z.size
  ·simp only [List.getElem?_map,List.getElem?_range hi,Option.map_some,Function.comp_apply]
   rw [Nat.mul_comm n,Nat.mul_add_mod,Nat.mod_eq_of_lt hi]
   simp [hi]
  ·rw [List.getElem?_eq_none (by simp; omega),List.getElem?_eq_none (by simp; omega)]
theorem mf {z:AV} {c:Value} (hr:Rel R w z c) (hn:z.aX=true):∀ (n:Nat),aM R w (ay (List.replicate n z)) (List.replicate n c.cells.toList).flatten∧∀ v∈(List.replicate n c.cells.toList).flatten,v.oneCell'=true
 | 0=>by simp [ay]; exact .nil
 | n+1=>by
  obtain ⟨c1,c2⟩:=Rel.cells hr hn
  obtain ⟨h1,h2⟩:=mf hr hn n
  refine ⟨?_,fun v hv=>?_⟩
  ·simpa [List.replicate_succ,ay] using c1.append h1
  ·simp only [List.replicate_succ,List.flatten_cons,List.mem_append] at hv
   rcases hv with hv | hv
   ·exact c2 v hv
   ·exact h2 v hv
theorem sT:∀ {ps:List (Nat × AV)} {us:List Value},aM R w (ps.map (·.2)) us→aM R w ((zd ps).map (·.2)) us
 | [],_,h=>h
 | (_,_) :: _,_,.cons h t=>.cons h.gD (sT t)
theorem sU:∀ (ps:List (Nat × AV)),(zd ps).map (·.1)=ps.map (·.1)
 | []=>rfl
 | (i,v) :: l=>by simp [zd,sU l]
theorem iz (h:bn E R w β s a) (t:TypeId) (len:Nat) (parts:Array (Nat × Operand)) (ho:o.op=.buildSlice t len parts) {v:AV} (hv:ca E s t len parts.toList=some v) :
  ∃ es esz us elem,v=.list .full esz es∧(execOp a.eval o).run E.P w=.ok (.value (.slice (some ⟨w.heap.size,0,none⟩) len len)) (w.alloc (.cells ⟨us⟩ elem))∧ji esz es∧es.length=len∧aM R w (ay es) us∧(∀ x∈us,x.oneCell'=true)∧∃ i ag oa z,E.ti t=some i∧i.k=.sl elem esz ag oa z:=by
 unfold ca at hv
 split at hv
 ·rename_i i ps hi IS
  split at hv
  ·rename_i elem esz ag oa z hk
   split at hv
   ·rename_i hc
    simp only [Bool.and_eq_true] at hc
    obtain ⟨⟨⟨⟨Ht,Xv⟩,Xw⟩,hz4⟩,hz5⟩:=hc
    have Ht:=Nat.eq_of_beq_eq_true Ht
    have Xv:=Nat.le_of_ble_eq_true Xv
    have Xw:=Nat.le_of_ble_eq_true Xw
    split at hv
    ·rename_i es IT
     cases hv
     obtain ⟨gH,u,e1,e2,e3,e4,e5,e6⟩:=cj E hi
     rw [hk] at e5
     obtain ⟨ie,ue,rfl,f1,f2,f3,f4,f5,f6⟩:=dI e5
     obtain ⟨zc,qw,DL⟩:=dh f6
     have RU:=DL R w
     obtain ⟨c1,c2⟩:=Rel.cells RU hz4
     have pq:zc.cells.size=esz:=by rw [← Ht,c1.length]; simp
     obtain ⟨p1,p2⟩:=uW h IS
     obtain ⟨z1,z2⟩:=mf RU hz4 len
     obtain ⟨g1,g2,g3⟩:=tN IT (fH Ht hz4 hz5)
     obtain ⟨us,u1,u2,u3⟩:=oe (R:=R) (w:=w) _ (sT p1) ((sU ps).trans p2) z1 z2 g1
     have Tf:(parts.map fun (x:Nat × Operand)=>(x.1,a.eval x.2)).toList=parts.toList.map fun x=>(x.1,a.eval x.2):=by simp
     have vG:((Array.range (len * esz)).map fun i=>zc.cells[i % zc.cells.size]!)=⟨(List.replicate len zc.cells.toList).flatten⟩:=by
      apply Array.ext'
      rw [← pq]
      exact og zc.cells len
     have hlen:es.length=len:=by simpa using g3
     have bG:(Instr.buildSlice t len (parts.map fun (x:Nat × Operand)=>(x.1,a.eval x.2))).run E.P w=.ok (.slice (some ⟨w.heap.size,0,none⟩) len len) (w.alloc (.cells ⟨us⟩ elem)):=by
      have Hr:¬ len * esz > 2 ^ 24:=by omega
      by_cases h0:len * esz=0
      ·have sV:len=0:=by
        rcases Nat.mul_eq_zero.1 h0 with h0 | h0 <;> omega
       subst sV
       have u1':Instr.fill (fun i=>some (i * esz,esz)) #[] (parts.toList.map fun x=>(x.1,a.eval x.2))=some ⟨us⟩:=by simpa using u1
       simp only [Instr.buildSlice,Sem.run_bind,run_underlying e2,Result.andThen_ok,run_sizeOf w f1,f2]
       simp only [Nat.zero_mul,gt_iff_lt,Nat.not_lt_zero,if_false,if_true,Sem.run_bind,Sem.run_pure,Result.andThen_ok,Tf]
       have BY:∀ f:Nat→Value,Array.map f (Array.range 0)=#[]:=fun f=>by simp
       simp only [BY,u1',newRow,Sem.run_bind,run_newObj,Result.andThen_ok,Sem.run_pure]
       rfl
      ·simp only [Instr.buildSlice,Sem.run_bind,run_underlying e2,Result.andThen_ok,run_sizeOf w f1,f2]
       rw [if_neg Hr,if_neg h0]
       simp only [Sem.run_bind,Sem.run_pure,Result.andThen_ok,gI w f1 qw,Tf,vG,u1,newRow,run_newObj]
       rfl
     exact ⟨es,esz,us,elem,rfl,by simp only [execOp,ho,Sem.run_bind,bG,Result.andThen_ok,Sem.run_pure],g2,hlen,u2,u3,i,ag,oa,_,hi,hk⟩
    ·cases hv
   ·cases hv
  ·cases hv
 ·cases hv
theorem uG (h:bn E R w β s a) (t:TypeId) (len:Nat) (parts:Array (Nat × Operand)) (ho:o.op=.buildSlice t len parts) {cs:List AV} (hv:jP E s t len parts.toList=some cs) :
  ∃ esz us elem,(execOp a.eval o).run E.P w=.ok (.value (.slice (some ⟨w.heap.size,0,none⟩) len len)) (w.alloc (.cells ⟨us⟩ elem))∧aM R w cs us∧(∀ x∈us,x.oneCell'=true)∧∃ i ag oa z,E.ti t=some i∧i.k=.sl elem esz ag oa z:=by
 unfold jP at hv
 split at hv
 ·rename_i i ps hi IS
  split at hv
  ·rename_i elem esz ag oa z hk
   split at hv
   ·rename_i hc
    simp only [Bool.and_eq_true] at hc
    obtain ⟨⟨⟨Ht,Xv⟩,Xw⟩,hz4⟩:=hc
    have Ht:=Nat.eq_of_beq_eq_true Ht
    have Xv:=Nat.le_of_ble_eq_true Xv
    have Xw:=Nat.le_of_ble_eq_true Xw
    ·have g1:=hv
     obtain ⟨gH,u,e1,e2,e3,e4,e5,e6⟩:=cj E hi
     rw [hk] at e5
     obtain ⟨ie,ue,rfl,f1,f2,f3,f4,f5,f6⟩:=dI e5
     obtain ⟨zc,qw,DL⟩:=dh f6
     have RU:=DL R w
     obtain ⟨c1,c2⟩:=Rel.cells RU hz4
     have pq:zc.cells.size=esz:=by rw [← Ht,c1.length]; simp
     obtain ⟨p1,p2⟩:=uW h IS
     obtain ⟨z1,z2⟩:=mf RU hz4 len
     obtain ⟨us,u1,u2,u3⟩:=oe (R:=R) (w:=w) _ (sT p1) ((sU ps).trans p2) z1 z2 g1
     have Tf:(parts.map fun (x:Nat × Operand)=>(x.1,a.eval x.2)).toList=parts.toList.map fun x=>(x.1,a.eval x.2):=by simp
     have vG:((Array.range (len * esz)).map fun i=>zc.cells[i % zc.cells.size]!)=⟨(List.replicate len zc.cells.toList).flatten⟩:=by
      apply Array.ext'
      rw [← pq]
      exact og zc.cells len
     have bG:(Instr.buildSlice t len (parts.map fun (x:Nat × Operand)=>(x.1,a.eval x.2))).run E.P w=.ok (.slice (some ⟨w.heap.size,0,none⟩) len len) (w.alloc (.cells ⟨us⟩ elem)):=by
      have Hr:¬ len * esz > 2 ^ 24:=by omega
      by_cases h0:len * esz=0
      ·have sV:len=0:=by
        rcases Nat.mul_eq_zero.1 h0 with h0 | h0 <;> omega
       subst sV
       have u1':Instr.fill (fun i=>some (i * esz,esz)) #[] (parts.toList.map fun x=>(x.1,a.eval x.2))=some ⟨us⟩:=by simpa using u1
       simp only [Instr.buildSlice,Sem.run_bind,run_underlying e2,Result.andThen_ok,run_sizeOf w f1,f2]
       simp only [Nat.zero_mul,gt_iff_lt,Nat.not_lt_zero,if_false,if_true,Sem.run_bind,Sem.run_pure,Result.andThen_ok,Tf]
       have BY:∀ f:Nat→Value,Array.map f (Array.range 0)=#[]:=fun f=>by simp
       simp only [BY,u1',newRow,Sem.run_bind,run_newObj,Result.andThen_ok,Sem.run_pure]
       rfl
      ·simp only [Instr.buildSlice,Sem.run_bind,run_underlying e2,Result.andThen_ok,run_sizeOf w f1,f2]
       rw [if_neg Hr,if_neg h0]
       simp only [Sem.run_bind,Sem.run_pure,Result.andThen_ok,gI w f1 qw,Tf,vG,u1,newRow,run_newObj]
       rfl
     exact ⟨esz,us,elem,by simp only [execOp,ho,Sem.run_bind,bG,Result.andThen_ok,Sem.run_pure],u2,u3,i,ag,oa,_,hi,hk⟩
   ·cases hv
  ·cases hv
 ·cases hv
theorem uH (h:bn E R w β s a) (t:TypeId) (len:Nat) (parts:Array (Nat × Operand)) (ho:o.op=.buildSlice t len parts) {v:AV} (hv:ca E s t len parts.toList=some v) :
  bW E R w β s a o (s.put o.dst (.v v)):=by
 obtain ⟨es,esz,us,elem,rfl,bG,g2,hlen,u2,u3,_⟩:=iz h t len parts ho hv
 have e:=AB (R:=R) (w:=w) h.g.wf (.cells ⟨us⟩ elem)
 refine ⟨_,.slice (some ⟨w.heap.size,0,none⟩) len len,_,R.WI w.heap.size,β,bG,.inl rfl,(h.WI (.cells ⟨us⟩ elem)).put o.dst ?_,by rw [a8]; exact Je h _⟩
 refine Rel.list (me g2 (dO.make (u2.mono e) u3 (fun j x hx=>?_) (fun j _=>.inr rfl))) hlen.symm (Nat.le_refl _) rfl
 rw [jl (heap_alloc_new w _)]
 simpa using hx
theorem sW (h:bn E R w β s a) (t:TypeId) (len:Nat) (parts:Array (Nat × Operand)) (ho:o.op=.buildSlice t len parts) {cs:List AV} (hv:jP E s t len parts.toList=some cs) {i:TI} (hi:E.ti t=some i) {el:TypeId} {esz eb:Nat} {ag:Bool} {z:Option AV} (hk:i.k=.sl el esz ag eb z) :
  bW E R w β s a o ((s.dN (.row cs el)).put o.dst (.v (.jO s.G.length 0 esz len len))):=by
 obtain ⟨Tg,us,elem,bG,u2,u3,i',ag',Xx,z',sQ,iR⟩:=uG h t len parts ho hv
 rw [hi] at sQ
 cases sQ
 rw [hk] at iR
 cases iR
 have e:=gQ (R:=R) (w:=w) h.g.wf (.cells ⟨us⟩ el) (.b7 w.heap.size)
 have iq:gG (R.add (.b7 w.heap.size)) (w.alloc (.cells ⟨us⟩ el)) (.row cs el) (.b7 w.heap.size):=
  ⟨_,heap_alloc_new w _,u2.mono e,u3,fun o' hi=>by have:=h.g.wf _ _ hi; omega⟩
 exact ⟨_,_,_,R.add (.b7 w.heap.size),β,bG,.inl rfl,(h.lC _ _ _ (by exact fun _ h=>h) iq).put o.dst (x:=.v (.jO s.G.length 0 esz len len)) (Rel.jO (fZ h _) (Nat.le_refl _)),by rw [a8]; exact cV h _ _ (by exact fun _ h=>h)⟩
theorem sX (h:bn E R w β s a) (t:TypeId) (len:Nat) (parts:Array (Nat × Operand)) (ho:o.op=.buildSlice t len parts) {k:LK} {esz:Nat} {es:List AV} (hv:ca E s t len parts.toList=some (.list k esz es)) {i:TI} (hi:E.ti t=some i) {el:TypeId} {bN eb:Nat} {ag:Bool} {z:Option AV} (hk:i.k=.sl el bN ag eb z) :
  bW E R w β s a o ((s.dN (.row (ay es) el)).put o.dst (.v (.jO s.G.length 0 esz len len))):=by
 obtain ⟨es',Tg,us,elem,Xy,bG,g2,hlen,u2,u3,i',ag',Xx,z',sQ,iR⟩:=iz h t len parts ho hv
 cases Xy
 rw [hi] at sQ
 cases sQ
 rw [hk] at iR
 cases iR
 have e:=gQ (R:=R) (w:=w) h.g.wf (.cells ⟨us⟩ el) (.b7 w.heap.size)
 have iq:gG (R.add (.b7 w.heap.size)) (w.alloc (.cells ⟨us⟩ el)) (.row (ay es) el) (.b7 w.heap.size):=
  ⟨_,heap_alloc_new w _,u2.mono e,u3,fun o' hi=>by have:=h.g.wf _ _ hi; omega⟩
 exact ⟨_,_,_,R.add (.b7 w.heap.size),β,bG,.inl rfl,(h.lC _ _ _ (by exact fun _ h=>h) iq).put o.dst (x:=.v (.jO s.G.length 0 esz len len)) (Rel.jO (fZ h _) (Nat.le_refl _)),by rw [a8]; exact cV h _ _ (by exact fun _ h=>h)⟩
end ops
end Go.Am
namespace Go.Am
open Go
section ops
variable {E:Env} {R:ao} {w:World} {β:Nat→Nat} {s:St} {a:Act} {o:Oper}
def Th (R:ao) (w:World) (β:Nat→Nat):Option SV→Option Value→Prop
 | none,none=>True
 | some x,some c=>pS R w β x c
 | _,_=>False
theorem zp {y y' n:Nat} {x:SV} {c:Value} (hx:pS R w β x c) (hb:Ap y x=some (true,n)) (hy:y≤y') (code:BoundsCode) :
  (Instr.sliceBound c y' code).run E.P w=.ok n w∧n≤y:=by
 unfold Ap at hb
 split at hb
 ·rename_i k m
  injection hb with hb
  injection hb with h1 h2
  subst h2
  obtain ⟨h0,h3⟩:=of_decide_eq_true h1
  have rA:Rel R w (.int k m) c:=hx
  cases rA
  exact ⟨run_sliceBound (P:=E.P) w k m y' code h0 (by omega),by omega⟩
 ·cases hb
theorem dV (isS:Bool) {len cap l h:Nat} (FY:len≤cap) {lo hi:Option SV} {lv hv:Option Value} (hl:Th R w β lo lv) (hh:Th R w β hi hv) (hb:DU len lo hi=some (true,l,h)) :
  (Instr.sliceBounds isS len cap lv hv none).run E.P w=.ok (l,h,cap) w∧l≤h∧h≤len:=by
 unfold DU at hb
 split at hb
 ·cases hb
 ·rename_i c1 h' jL
  split at hb
  ·cases hb
  ·rename_i c2 l' Ti
   injection hb with hb
   injection hb with hc hb
   injection hb with e1 e2
   subst e1; subst e2
   simp only [Bool.and_eq_true] at hc
   obtain ⟨rfl,rfl⟩:=hc
   have H:∃ _:True,(match hv with | some v=>Instr.sliceBound v cap (if isS=true then .sliceAcap else .sliceAlen) | none=>pure len).run E.P w=.ok h' w∧h'≤len:=by
    refine ⟨trivial,?_⟩
    cases hi with
    | none=>cases hv with
     | none=>simp at jL; subst jL; exact ⟨rfl,Nat.le_refl _⟩
     | some v=>exact hh.elim
    | some x=>cases hv with
     | none=>exact hh.elim
     | some v=>exact zp (E:=E) hh jL FY _
   have L:∃ _:True,(match lv with | some v=>Instr.sliceBound v h' .sliceB | none=>pure 0).run E.P w=.ok l' w∧l'≤h':=by
    refine ⟨trivial,?_⟩
    cases lo with
    | none=>cases lv with
     | none=>simp at Ti; subst Ti; exact ⟨rfl,Nat.zero_le _⟩
     | some v=>exact hl.elim
    | some x=>cases lv with
     | none=>exact hl.elim
     | some v=>exact zp (E:=E) hl Ti (Nat.le_refl _) _
   obtain ⟨_,H1,H2⟩:=H
   obtain ⟨_,L1,L2⟩:=L
   refine ⟨?_,L2,H2⟩
   cases hv <;> cases lv <;> simp_all [Instr.sliceBounds]
theorem BZ (h:bn E R w β s a) {x:Option Operand} {y:Option SV} (hx:mK E s.ah x=some y):Th R w β y (x.map a.eval):=by
 cases x with
 | none=>simp [mK] at hx; subst hx; trivial
 | some x=>simp [mK] at hx; subst hx; exact aU h x
theorem oh {α:Type} {l:List α} {lo hi:Nat} (h:hi≤l.length):(eF lo hi l).length=hi - lo:=by
 simp [eF]
 omega
theorem yB (l:List UInt8) (lo hi:Nat):(⟨⟨l⟩⟩:ByteArray).extract lo hi=⟨⟨eF lo hi l⟩⟩:=by
 apply ByteArray.ext
 rw [ByteArray.data_extract]
 apply Array.ext'
 simp [List.extract_eq_take_drop,eF,List.drop_take]
theorem FZ {ag:Bool} {b sz:Nat} (eC:(ag || Nat.beq sz 1)=true):∀ (n:Nat) {cs:List AV} {o:Nat},dO R w b o cs→n * sz≤cs.length→allFit (DV ag) (gV ag sz n cs)=true→fY R w b o sz (gV ag sz n cs)
 | 0,_,_,_,_,_=>.nil
 | n+1,cs,o,hc,hl,hf=>by
  simp only [gV,allFit,Bool.and_eq_true] at hf
  obtain ⟨vH,hf2⟩:=hf
  unfold DV at vH
  simp only [Bool.and_eq_true] at vH
  obtain ⟨⟨h1,h2⟩,h3⟩:=vH
  have hle:sz≤cs.length:=by rw [Nat.succ_mul] at hl; omega
  have lE:(Xi ag (cs.take sz)).cells=cs.take sz:=by
   cases ag with
   | true=>rfl
   | false=>
    have FX:sz=1:=by simpa using eC
    subst FX
    match cs,hle with
    | a :: cs,_=>
     show AV.cells a=[a]
     have ho:a.one=true:=by simpa [Xi,ee] using h2
     cases a <;> first | rfl | simp [AV.one] at ho
  obtain ⟨vs,k1,k2,k3,k4⟩:=hc.get
  have hA:dO R w b o (cs.take sz):=dO.make (k1.take sz) (fun v hv=>k2 v (List.mem_of_mem_take hv)) (fun j v hv=>k3 j v (by
   rw [List.getElem?_take] at hv
   split at hv
   ·exact hv
   ·cases hv)) (fun j hj=>k4 j (by rw [List.length_take] at hj; omega))
  exact .cons (by rw [lE,List.length_take,Nat.min_eq_left hle]) h1 h3 (by rw [lE]; exact hA) (FZ eC n (hc.drop sz) (by rw [List.length_drop]; rw [Nat.succ_mul] at hl; omega) hf2)
theorem p0 (ag:Bool) (sz:Nat):∀ (n:Nat) (cs:List AV),(gV ag sz n cs).length=n
 | 0,_=>rfl
 | n+1,cs=>by simp [gV,p0 ag sz n]
theorem D9 (h:bn E R w β s a) (t:TypeId) (x:Operand) (lo hi:Option Operand) (ho:o.op=.slice t x lo hi none) {l h':Option SV} (hl:mK E s.ah lo=some l) (hh:mK E s.ah hi=some h') {v:AV} (hv:Aq E t (bI E s.ah x) l h' none=some (true,v)) :
  bW E R w β s a o (s.put o.dst (.v v)):=by
 have rx:=aU h x
 have rl:=BZ h hl
 have rh:=BZ h hh
 unfold Aq at hv
 split at hv
 ·rename_i i sQ hmx
  obtain ⟨gH,u,e1,e2,e3,e4,e5,e6⟩:=cj E sQ
  split at hv
  ·-- a string
   rename_i bs hk hx
   rw [hx] at rx
   have dJ:Rel R w (.str bs) (a.eval x):=rx
   generalize fj:a.eval x=xv at dJ
   cases dJ
   rw [hk] at e5
   have:=ke e5
   subst this
   split at hv
   ·rename_i c p q hb
    injection hv with hv
    injection hv with h1 h2
    subst h1; subst h2
    obtain ⟨k1,k2,k3⟩:=dV (E:=E) false (Nat.le_refl _) rl rh hb
    refine ax h (c:=.string ⟨⟨eF p q bs⟩⟩) ?_ (Rel.str _)
    rw [← yB]
    simp only [execOp,ho,Instr.sliceAt,Sem.run_bind,run_underlying e2,Result.andThen_ok,Instr.slice,fj,Option.map_none,Option.isSome_none,Bool.false_eq_true,if_false,size_bytes,k1,Sem.run_pure]
   ·cases hv
  ·-- a list
   rename_i elem esz ag oa z k sz es hk hx
   rw [hx] at rx
   rw [hk] at e5
   obtain ⟨ie,ue,rfl,f1,f2,f3,f4,f5,f6⟩:=dI e5
   split at hv
   ·rename_i eC
    split at hv
    ·rename_i c p q hb
     injection hv with hv
     injection hv with h1 h2
     subst h1; subst h2
     have dJ:Rel R w (.list k sz es) (a.eval x):=rx
     generalize fj:a.eval x=xv at dJ
     cases dJ with
     | jA=>
      obtain ⟨k1,k2,k3⟩:=dV (E:=E) true (Nat.le_refl _) rl rh hb
      simp only [List.length_nil,Nat.le_zero_eq] at k3
      subst k3
      have:p=0:=by omega
      subst this
      refine ax h (c:=.slice none 0 0) ?_ ?_
      ·simp only [execOp,ho,Instr.sliceAt,Sem.run_bind,run_underlying e2,Result.andThen_ok,Instr.slice,fj,Option.map_none]
       simp only [List.length_nil] at k1
       simp [k1,run_sizeOf w f1]
      ·exact Rel.jA
     | iU=>
      obtain ⟨k1,k2,k3⟩:=dV (E:=E) true (Nat.le_refl _) rl rh hb
      simp only [List.length_nil,Nat.le_zero_eq] at k3
      subst k3
      have:p=0:=by omega
      subst this
      refine ax h (c:=.slice none 0 0) ?_ ?_
      ·simp only [execOp,ho,Instr.sliceAt,Sem.run_bind,run_underlying e2,Result.andThen_ok,Instr.slice,fj,Option.map_none]
       simp only [List.length_nil] at k1
       simp [k1,run_sizeOf w f1]
      ·exact Rel.iU
     | @mN _ ad=>
      obtain ⟨k1,k2,k3⟩:=dV (E:=E) true (Nat.le_refl _) rl rh hb
      simp only [List.length_nil,Nat.le_zero_eq] at k3
      subst k3
      have:p=0:=by omega
      subst this
      refine ax h (c:=.slice (some ad) 0 0) ?_ ?_
      ·simp only [execOp,ho,Instr.sliceAt,Sem.run_bind,run_underlying e2,Result.andThen_ok,Instr.slice,fj,Option.map_none]
       simp only [List.length_nil] at k1
       simp [k1,run_sizeOf w f1]
      ·exact Rel.mN
     | lZ h0 WJ=>
      obtain ⟨k1,k2,k3⟩:=dV (E:=E) true (Nat.le_refl _) rl rh hb
      simp only [List.length_nil,Nat.le_zero_eq] at k3
      subst k3
      have:p=0:=by omega
      subst this
      refine ax h (c:=.slice none 0 0) ?_ ?_
      ·simp only [execOp,ho,Instr.sliceAt,Sem.run_bind,run_underlying e2,Result.andThen_ok,Instr.slice,fj,Option.map_none]
       simp only [List.length_nil] at k1
       simp [k1,run_sizeOf w f1]
      ·exact Rel.iU
     | lA h0 WJ=>
      obtain ⟨k1,k2,k3⟩:=dV (E:=E) true (Nat.le_refl _) rl rh hb
      simp only [List.length_nil,Nat.le_zero_eq] at k3
      subst k3
      have:p=0:=by omega
      subst this
      refine ax h (c:=.slice none 0 0) ?_ ?_
      ·simp only [execOp,ho,Instr.sliceAt,Sem.run_bind,run_underlying e2,Result.andThen_ok,Instr.slice,fj,Option.map_none]
       simp only [List.length_nil] at k1
       simp [k1,run_sizeOf w f1]
      ·exact Rel.iU
     | @list _ _ _ b o' len cap hr hlen gW I9=>
      subst hlen
      obtain ⟨k1,k2,k3⟩:=dV (E:=E) true gW rl rh hb
      have Xz:es≠[]→sz=esz:=fun cP=>by
       simp only [Bool.or_eq_true] at eC
       rcases eC with hc | hc
       ·exact Nat.eq_of_beq_eq_true hc
       ·simp at hc; exact absurd hc cP
      have bG:(execOp a.eval o).run E.P w=.ok (.value (.slice (if cap=p then some ⟨b,o',none⟩ else some ⟨b,o'+p * esz,none⟩) (q - p) (cap - p))) w:=by
       simp only [execOp,ho,Instr.sliceAt,Sem.run_bind,run_underlying e2,Result.andThen_ok,Instr.slice,fj,Option.map_none,k1,run_sizeOf w f1,f2,Sem.run_pure,Option.map_some,cF]
      have tO:∀ b2 o2,As R (match k with | .nil=>LK.nil | .full=>(match h' with | none=>LK.full | some _=>LK.eU) | _=>LK.eU) b2 o2 (q - p) (cap - p):=by
       intro b2 o2
       cases k with
       | nil=>exact I9.elim
       | eU=>trivial
       | own id=>trivial
       | bk id j=>trivial
       | full=>
        have hc:cap=es.length:=I9
        cases h' with
        | some _=>trivial
        | none=>
         have hq:q=es.length:=by
          unfold DU at hb
          simp only at hb
          split at hb
          ·cases hb
          ·injection hb with hb
           injection hb with _ hb
           injection hb with _ hb
           exact hb.symm
         show cap - p=q - p
         omega
      by_cases WK:cap=p
      ·refine ax h (c:=.slice (some ⟨b,o',none⟩) (q - p) (cap - p)) (by rw [bG,if_pos WK]) ?_
       have he:eF p q es=[]:=List.eq_nil_of_length_eq_zero (by rw [oh k3]; omega)
       exact Rel.list (by rw [he]; exact .nil) (by rw [oh k3]) (by omega) (tO _ _)
      ·refine ax h (c:=.slice (some ⟨b,o'+p * esz,none⟩) (q - p) (cap - p)) (by rw [bG,if_neg WK]) ?_
       refine Rel.list ?_ (by rw [oh k3]) (by omega) (tO _ _)
       by_cases cP:es=[]
       ·subst cP
        simp [eF]
        exact .nil
       ·have:=Xz cP
        subst this
        exact zn p (sS q hr)
    ·cases hv
   ·cases hv
  ·-- a heap slice
   rename_i elem esz ag oa z id off sz len cap hk hx
   rw [hx] at rx
   rw [hk] at e5
   obtain ⟨ie,ue,rfl,f1,f2,f3,f4,f5,f6⟩:=dI e5
   split at hv
   ·rename_i eC
    have eC:=Nat.eq_of_beq_eq_true eC
    subst eC
    split at hv
    ·rename_i c p q hb
     injection hv with hv
     injection hv with h1 h2
     subst h1; subst h2
     have dJ:Rel R w (.jO id off sz len cap) (a.eval x):=rx
     generalize fj:a.eval x=xv at dJ
     cases dJ with
     | @jO _ _ _ _ _ b hbk gW=>
      obtain ⟨k1,k2,k3⟩:=dV (E:=E) true gW rl rh hb
      refine ax h (c:=.slice (some ⟨b,bif Nat.beq cap p then off else off+p * sz,none⟩) (q - p) (cap - p)) ?_ (Rel.jO hbk (by omega))
      have hb:(bif Nat.beq cap p then off else off+p * sz)=if cap=p then off else off+p * sz:=by
       by_cases e:cap=p
       ·rw [if_pos e,e,show Nat.beq p p=true from Nat.beq_refl p]; rfl
       ·rw [if_neg e]
        cases hq:Nat.beq cap p with
        | true=>exact absurd (Nat.eq_of_beq_eq_true hq) e
        | false=>rfl
      rw [hb]
      simp only [execOp,ho,Instr.sliceAt,Sem.run_bind,run_underlying e2,Result.andThen_ok,Instr.slice,fj,Option.map_none,k1,run_sizeOf w f1,f2,Sem.run_pure,Option.map_some,cF]
      split <;> rfl
    ·cases hv
   ·cases hv
  ·-- a slice that grows
   rename_i elem esz ag oa z id f' off sz len hk hx
   rw [hx] at rx
   rw [hk] at e5
   obtain ⟨ie,ue,rfl,f1,f2,f3,f4,f5,f6⟩:=dI e5
   split at hv
   ·rename_i eC
    have eC:=Nat.eq_of_beq_eq_true eC
    subst eC
    split at hv
    ·rename_i c p q hb
     injection hv with hv
     injection hv with h1 h2
     subst h1; subst h2
     have dJ:Rel R w (.dH id f' off sz len) (a.eval x):=rx
     generalize fj:a.eval x=xv at dJ
     cases dJ with
     | iN h0 WJ=>
      obtain ⟨k1,k2,k3⟩:=dV (E:=E) true (Nat.le_refl _) rl rh hb
      simp only [Nat.le_zero_eq] at k3
      subst k3
      have:p=0:=by omega
      subst this
      refine ax h (c:=.slice none 0 0) ?_ ?_
      ·simp only [execOp,ho,Instr.sliceAt,Sem.run_bind,run_underlying e2,Result.andThen_ok,Instr.slice,fj,Option.map_none]
       simp [k1,run_sizeOf w f1]
      ·exact Rel.iN h0 WJ
     | @dH _ _ _ _ _ cap b o' ro bR eB gW=>
      obtain ⟨k1,k2,k3⟩:=dV (E:=E) true gW rl rh hb
      have bG:(execOp a.eval o).run E.P w=.ok (.value (.slice (if cap=p then some ⟨b,o',none⟩ else some ⟨b,o'+p * sz,none⟩) (q - p) (cap - p))) w:=by
       simp only [execOp,ho,Instr.sliceAt,Sem.run_bind,run_underlying e2,Result.andThen_ok,Instr.slice,fj,Option.map_none,k1,run_sizeOf w f1,f2,Sem.run_pure,Option.map_some,cF]
      have Tj:∀ o2,(o2=o'+p * sz∨cap=p)→Hk b o2 f' (off+p) sz (cap - p) ro:=fun o2 h2=>by
       cases ro with
       | none=>trivial
       | bJ=>exact eB.elim
       | b7 _=>exact eB.elim
       | bk _=>exact eB.elim
       | tok f1 b1 c1=>
        refine ⟨eB.1,fun e=>?_⟩
        obtain ⟨q1,q2,q3⟩:=eB.2 e
        refine ⟨q1,by omega,?_⟩
        rcases h2 with h2 | h2
        ·rcases q3 with q3 | q3
         ·exact .inl (by rw [h2,q3,Nat.add_mul])
         ·exact .inr (by omega)
        ·exact .inr (by omega)
      by_cases WK:cap=p
      ·exact ax h (c:=.slice (some ⟨b,o',none⟩) (q - p) (cap - p)) (by rw [bG,if_pos WK]) (Rel.dH bR (Tj _ (.inr WK)) (by omega))
      ·exact ax h (c:=.slice (some ⟨b,o'+p * sz,none⟩) (q - p) (cap - p)) (by rw [bG,if_neg WK]) (Rel.dH bR (Tj _ (.inl rfl)) (by omega))
    ·cases hv
   ·cases hv
  ·-- an array that never changes again
   rename_i len esz ag cs hk hx
   rw [hx] at rx
   rw [hk] at e5
   obtain ⟨e,ie,ue,rfl,f1,f2,f3,f4⟩:=n9 e5
   split at hv
   ·split at hv
    ·rename_i cH
     simp only [Bool.and_eq_true] at cH
     obtain ⟨⟨⟨c1,c2⟩,c3⟩,c4⟩:=cH
     injection hv with hv
     injection hv with _ h2
     subst h2
     have dJ:Rel R w (.ep cs) (a.eval x):=rx
     generalize fj:a.eval x=xv at dJ
     cases dJ with
     | @ep _ b o' hr=>
     obtain ⟨k1,_,_⟩:=dV (E:=E) (w:=w) (R:=R) (β:=β) (l:=0) (h:=len) false (Nat.le_refl len) rl rh rfl
     refine ax h (c:=.slice (some ⟨b,o',none⟩) len len) ?_ (Rel.list (FZ c3 len hr (Nat.le_of_ble_eq_true c1) c4) (p0 _ _ _ _).symm (Nat.le_refl _) rfl)
     simp only [execOp,ho,Instr.sliceAt,Sem.run_bind,run_underlying e2,Result.andThen_ok,fj,Instr.sureAddr,Option.map_none,k1,run_sizeOf w f1,f2,Sem.run_pure]
     by_cases sV:len=0
     ·subst sV
      simp
     ·simp [sV,cF]
    ·cases hv
   ·cases hv
  ·cases hv
 ·cases hv
theorem AD (h:bn E R w β s a) (t:TypeId) (ho:o.op=.makeMap t none):bW E R w β s a o ((s.dN (.map [])).put o.dst (.v (.map s.G.length))):=by
 have iq:gG (R.add (.b7 w.heap.size)) (w.alloc (.map #[] 0)) (.map []) (.b7 w.heap.size):=⟨#[],0,heap_alloc_new w _,trivial,rfl,fun i e he=>by simp at he⟩
 refine ⟨_,.map (some w.heap.size),w.alloc (.map #[] 0),R.add (.b7 w.heap.size),β,?_,.inl rfl,(h.lC (.map #[] 0) (.map []) (.b7 w.heap.size) (by exact fun _ h=>h) iq).put o.dst (x:=.v (.map s.G.length)) (Rel.map (fZ h _)),by rw [a8]; exact cV h _ _ (by exact fun _ h=>h)⟩
 simp only [execOp,ho,Instr.makeMap,Option.map_none,Sem.run_bind,run_newObj,Result.andThen_ok,Sem.run_pure]
 rfl
theorem p9 (h:bn E R w β s a) (t:TypeId) (x y:Operand) (ho:o.op=.makeSlice t x y) {i:TI} (hi:E.ti t=some i) {k k':IntKind} {n m:Int} (hx:bI E s.ah x=.v (.int k n)) (hy:bI E s.ah y=.v (.int k' m))
  {elem esz oa:Nat} {ag:Bool} {z:AV} (hk:i.k=.sl elem esz ag oa (some z)) (hz:z.cells.length=esz) (Ht:1≤esz) (qZ:z.aX=true) (hc:0≤n∧n≤m∧m≤140737488355328∧m * oa≤140737488355328) :
  ∃ us,aM R w (ay (List.replicate m.toNat z)) us∧(∀ v∈us,v.oneCell'=true)∧(execOp a.eval o).run E.P w=.ok (.value (.slice (some ⟨w.heap.size,0,none⟩) n.toNat m.toNat)) (w.alloc (.cells ⟨us⟩ elem)):=by
 have rx:=aU h x
 have ry:=aU h y
 rw [hx] at rx
 rw [hy] at ry
 have dJ:Rel R w (.int k n) (a.eval x):=rx
 have pZ:Rel R w (.int k' m) (a.eval y):=ry
 generalize fj:a.eval x=xv at dJ
 generalize Xs:a.eval y=yv at pZ
 cases dJ
 cases pZ
 obtain ⟨c1,c2,c3,c4⟩:=hc
 obtain ⟨gH,u,e1,e2,e3,e4,e5,e6⟩:=cj E hi
 rw [hk] at e5
 obtain ⟨ie,ue,rfl,f1,f2,f3,f4,f5,f6⟩:=dI e5
 obtain ⟨zc,qw,DL⟩:=dh f6
 have RU:=DL R w
 obtain ⟨d1,d2⟩:=Rel.cells RU qZ
 have pq:zc.cells.size=esz:=by rw [← hz,d1.length]; simp
 obtain ⟨z1,z2⟩:=mf RU qZ m.toNat
 have vG:((Array.range (m.toNat * esz)).map fun i=>zc.cells[i % zc.cells.size]!)=⟨(List.replicate m.toNat zc.cells.toList).flatten⟩:=by
  apply Array.ext'
  rw [← pq]
  exact og zc.cells m.toNat
 have wn:IntKind.i64.wrap n=n:=IntWalk.i64_in n (by omega)
 have wm:IntKind.i64.wrap m=m:=IntWalk.i64_in m (by omega)
 have bG:(Instr.makeSlice t (.int k n) (.int k' m)).run E.P w=.ok (.slice (some ⟨w.heap.size,0,none⟩) n.toNat m.toNat) (w.alloc (.cells ⟨(List.replicate m.toNat zc.cells.toList).flatten⟩ elem)):=by
  have hby:(ie.bytes:Int) * m≤281474976710656:=by rw [f3,Int.mul_comm]; omega
  have XD:¬ 281474976710656 < (ie.bytes:Int) * m:=by omega
  have h1:¬ m < 0:=by omega
  have h2:¬ n < 0:=by omega
  have h3:¬ m < n:=by omega
  have Tk:(typeInfo elem).run E.P w=.ok ie w:=by simp [typeInfo,f1]
  by_cases h0:m.toNat * esz=0
  ·have hm0:m.toNat=0:=by
    rcases Nat.mul_eq_zero.1 h0 with h0 | h0 <;> omega
   have BY:∀ f:Nat→Value,Array.map f (Array.range 0)=#[]:=fun f=>by simp
   simp [Instr.makeSlice,run_underlying e2,asInt,asIntOf,Tk,wn,wm,h1,h2,h3,XD,run_sizeOf w f1,f2,hm0,newRow]
   rw [BY]
  ·simp [Instr.makeSlice,run_underlying e2,asInt,asIntOf,Tk,wn,wm,h1,h2,h3,XD,run_sizeOf w f1,f2,h0,gI w f1 qw,newRow]
   rw [← vG]
 refine ⟨_,z1,z2,?_⟩
 simp only [execOp,ho,fj,Xs,Sem.run_bind,bG,Result.andThen_ok,Sem.run_pure]
theorem vI (h:bn E R w β s a) (t:TypeId) (x y:Operand) (ho:o.op=.makeSlice t x y) {i:TI} (hi:E.ti t=some i) {k k':IntKind} {n m:Int} (hx:bI E s.ah x=.v (.int k n)) (hy:bI E s.ah y=.v (.int k' m))
  {elem esz oa:Nat} {ag:Bool} {z:AV} (hk:i.k=.sl elem esz ag oa (some z)) (hz:z.cells.length=esz) (Ht:1≤esz) (qZ:z.aX=true) (hc:0≤n∧n≤m∧m≤140737488355328∧m * oa≤140737488355328) :
  bW E R w β s a o ((s.dN (.row (ay (List.replicate m.toNat z)) elem)).put o.dst (.v (.jO s.G.length 0 esz n.toNat m.toNat))):=by
 obtain ⟨us,z1,z2,bG⟩:=p9 h t x y ho hi hx hy hk hz Ht qZ hc
 have e:=gQ (R:=R) (w:=w) h.g.wf (.cells ⟨us⟩ elem) (.b7 w.heap.size)
 have iq:gG (R.add (.b7 w.heap.size)) (w.alloc (.cells ⟨us⟩ elem)) (.row (ay (List.replicate m.toNat z)) elem) (.b7 w.heap.size):=
  ⟨_,heap_alloc_new w _,z1.mono e,z2,fun o' hi=>by have:=h.g.wf _ _ hi; omega⟩
 exact ⟨_,.slice (some ⟨w.heap.size,0,none⟩) n.toNat m.toNat,_,R.add (.b7 w.heap.size),β,bG,.inl rfl,(h.lC _ _ (.b7 w.heap.size) (by exact fun _ h=>h) iq).put o.dst (x:=.v (.jO s.G.length 0 esz n.toNat m.toNat)) (Rel.jO (fZ h _) (by omega)),by rw [a8]; exact cV h _ _ (by exact fun _ h=>h)⟩
end ops
end Go.Am
namespace Go.Am
open Go
section ops
variable {E:Env} {R:ao} {w:World} {β:Nat→Nat} {s:St} {a:Act} {o:Oper}
theorem kf (x:Array Operand) (f:Operand→Value):x.map f=⟨x.toList.map f⟩:=Array.ext' (by simp)
theorem eh {b:Builtin} {args:Array Operand} {tys:Array TypeId} (ho:o.op=.call { callee:=.builtin b,args:=args,argTypes:=tys }) (vs:List Value) (hv:args.toList.map a.eval=vs) :
  (execOp a.eval o).run E.P w=(builtin b tys o.type (args.map fun | .const _=>true | _=>false) ⟨vs⟩).run E.P w:=by
 simp only [execOp,ho,resolve,Sem.run_bind,Sem.run_pure,Result.andThen_ok,invoke,kf args a.eval,hv]
 rfl
theorem dw.length:∀ {l:List (AV × AV)} {es:List MapEntry},dw R w l es→l.length=es.length
 | [],[],_=>rfl
 | _ :: _,_ :: _,h=>by simp [dw.length h.2.2]
 | [],_ :: _,h=>h.elim
 | _ :: _,[],h=>h.elim
theorem Jf (h:bn E R w β s a) {args:Array Operand} {tys:List TypeId} (ho:o.op=.call { callee:=.builtin .len,args:=args,argTypes:=⟨tys⟩ }) {l:List AV} (hl:lS E s.ah args.toList=some l) {s':St} (hs:bS E s o.dst .len l tys=some (true,s')) :
  bW E R w β s a o s':=by
 have hr:=gd h hl
 generalize hv:args.toList.map a.eval=vs at hr
 have hx:=eh (E:=E) (w:=w) ho vs hv
 unfold bS at hs
 split at hs <;> first | (rename_i h1; cases h1; done) | skip
 ·rename_i x
  cases hr with
  | cons h0 h1=>
  cases h1
  split at hs
  ·rename_i t tl
   split at hs
   ·rename_i i hi
    obtain ⟨gH,u,e1,e2,e3,e4,e5,e6⟩:=cj E hi
    split at hs
    ·rename_i bs hk
     cases hs
     cases h0
     rw [hk] at e5
     have:=ke e5
     subst this
     refine ax h (c:=.int .i64 bs.length) ?_ (Rel.int _ _)
     rw [hx]
     simp [builtin,Builtin.len_,run_underlying e2,goInt,size_bytes]
    ·rename_i kk sz es hk
     cases hs
     rw [hk] at e5
     obtain ⟨ie,ue,rfl,_⟩:=dI e5
     refine ax h (c:=.int .i64 es.length) ?_ (Rel.int _ _)
     rw [hx]
     cases h0 with
     | jA=>simp [builtin,Builtin.len_,run_underlying e2,goInt]
     | iU=>simp [builtin,Builtin.len_,run_underlying e2,goInt]
     | mN=>simp [builtin,Builtin.len_,run_underlying e2,goInt]
     | lZ=>simp [builtin,Builtin.len_,run_underlying e2,goInt]
     | lA=>simp [builtin,Builtin.len_,run_underlying e2,goInt]
     | list _ hlen _ _=>subst hlen; simp [builtin,Builtin.len_,run_underlying e2,goInt]
    ·rename_i id off sz len cap hk
     cases hs
     rw [hk] at e5
     obtain ⟨ie,ue,rfl,_⟩:=dI e5
     refine ax h (c:=.int .i64 len) ?_ (Rel.int _ _)
     rw [hx]
     cases h0
     simp [builtin,Builtin.len_,run_underlying e2,goInt]
    ·rename_i id f' off sz len hk
     cases hs
     rw [hk] at e5
     obtain ⟨ie,ue,rfl,_⟩:=dI e5
     refine ax h (c:=.int .i64 len) ?_ (Rel.int _ _)
     rw [hx]
     cases h0 <;> simp [builtin,Builtin.len_,run_underlying e2,goInt]
    ·rename_i n esz ag hk
     cases hs
     rw [hk] at e5
     obtain ⟨e,ie,ue,rfl,_⟩:=n9 e5
     refine ax h (c:=.int .i64 n) ?_ (Rel.int _ _)
     rw [hx]
     simp [builtin,Builtin.len_,run_underlying e2,goInt]
    ·rename_i hk
     cases hs
     rw [hk] at e5
     obtain ⟨rfl,_⟩:=mb e5
     refine ax h (c:=.int .i64 0) ?_ (Rel.int _ _)
     rw [hx]
     cases h0
     simp [builtin,Builtin.len_,run_underlying e2,goInt]
    ·rename_i id hk
     split at hs
     ·rename_i es hg
      cases hs
      rw [hk] at e5
      obtain ⟨rfl,_⟩:=mb e5
      cases h0 with
      | @map _ b hb=>
      obtain ⟨aC,clock,g1,g2,g3⟩:=h.g.obj id _ _ hg hb
      refine ax h (c:=.int .i64 es.length) ?_ (Rel.int _ _)
      rw [hx]
      have iq:(getObj b).run E.P w=.ok (.map aC clock) w:=by simp [getObj,Sem.run,g1]
      simp [builtin,Builtin.len_,run_underlying e2,goInt,iq,g2.length]
     ·cases hs
    ·cases hs
   ·cases hs
  ·cases hs
 ·cases hs
theorem F0 {b:Bool}:∀ {l:List AV} {x v:AV} {c:Value} {cs:List Value},Rel R w x c→aM R w l cs→Hg x l=some v→∃ c',(cs.foldlM Builtin.max2 c).run E.P w=.ok c' w∧Rel R w v c'
 | [],x,v,c,cs,hr,hl,hv=>by
  cases hl
  simp only [Hg] at hv
  cases hv
  exact ⟨c,rfl,hr⟩
 | y :: l,x,v,c,cs,hr,hl,hv=>by
  cases hl with
  | cons hy hl=>
  unfold Hg at hv
  split at hv
  ·rename_i jL; cases jL
  ·rename_i k n k' m l' jL
   cases jL
   split at hv
   ·rename_i hk
    subst hk
    cases hr
    cases hy
    obtain ⟨c',h1,h2⟩:=F0 (b:=b) (Rel.int k (if m > n then m else n)) hl hv
    refine ⟨c',?_,h2⟩
    simp only [List.foldlM_cons,Sem.run_bind,Builtin.max2,Sem.run_pure,Result.andThen_ok]
    exact h1
   ·cases hv
  ·cases hv
theorem AE {b:Bool}:∀ {l:List AV} {x v:AV} {c:Value} {cs:List Value},Rel R w x c→aM R w l cs→DW x l=some v→∃ c',(cs.foldlM Builtin.min2 c).run E.P w=.ok c' w∧Rel R w v c'
 | [],x,v,c,cs,hr,hl,hv=>by
  cases hl
  simp only [DW] at hv
  cases hv
  exact ⟨c,rfl,hr⟩
 | y :: l,x,v,c,cs,hr,hl,hv=>by
  cases hl with
  | cons hy hl=>
  unfold DW at hv
  split at hv
  ·rename_i jL; cases jL
  ·rename_i k n k' m l' jL
   cases jL
   split at hv
   ·rename_i hk
    subst hk
    cases hr
    cases hy
    obtain ⟨c',h1,h2⟩:=AE (b:=b) (Rel.int k (if m < n then m else n)) hl hv
    refine ⟨c',?_,h2⟩
    simp only [List.foldlM_cons,Sem.run_bind,Builtin.min2,Sem.run_pure,Result.andThen_ok]
    exact h1
   ·cases hv
  ·rename_i n m l' jL
   cases jL
   cases hr
   cases hy
   obtain ⟨c',h1,h2⟩:=AE (b:=b) (Rel.str (bif Op.bytesLess n m || n == m then n else m)) hl hv
   refine ⟨c',?_,h2⟩
   have e:(Builtin.min2 (.string ⟨⟨n⟩⟩) (.string ⟨⟨m⟩⟩)).run E.P w=.ok (.string ⟨⟨bif Op.bytesLess n m || n == m then n else m⟩⟩) w:=by
    simp only [Builtin.min2,Op.stringOp,Sem.run_bind,Sem.run_pure,Result.andThen_ok]
    show Result.andThen ((asBool _).run E.P w) _=_
    cases hb:(Op.bytesLess n m || n == m) <;> simp_all [asBool]
   simp only [List.foldlM_cons,Sem.run_bind,e,Result.andThen_ok]
   exact h1
  ·cases hv
theorem Jg (h:bn E R w β s a) {args:Array Operand} {tys:Array TypeId} (ho:o.op=.call { callee:=.builtin .max,args:=args,argTypes:=tys }) {x v:AV} {l:List AV} (hl:lS E s.ah args.toList=some (x :: l)) (hm:Hg x l=some v) :
  bW E R w β s a o (s.put o.dst (.v v)):=by
 have hr:=gd h hl
 generalize hv:args.toList.map a.eval=vs at hr
 have hx:=eh (E:=E) (w:=w) ho vs hv
 cases hr with
 | cons h0 h1=>
 obtain ⟨c',k1,k2⟩:=F0 (E:=E) (b:=true) h0 h1 hm
 refine ax h (c:=c') ?_ k2
 rw [hx]
 simp [builtin,Builtin.max_,k1]
theorem Jh (h:bn E R w β s a) {args:Array Operand} {tys:Array TypeId} (ho:o.op=.call { callee:=.builtin .min,args:=args,argTypes:=tys }) {x v:AV} {l:List AV} (hl:lS E s.ah args.toList=some (x :: l)) (hm:DW x l=some v) :
  bW E R w β s a o (s.put o.dst (.v v)):=by
 have hr:=gd h hl
 generalize hv:args.toList.map a.eval=vs at hr
 have hx:=eh (E:=E) (w:=w) ho vs hv
 cases hr with
 | cons h0 h1=>
 obtain ⟨c',k1,k2⟩:=AE (E:=E) (b:=true) h0 h1 hm
 refine ax h (c:=c') ?_ k2
 rw [hx]
 simp [builtin,Builtin.min_,k1]
end ops
end Go.Am
namespace Go.Am
open Go
section ops
variable {E:Env} {R:ao} {w:World} {β:Nat→Nat} {s:St} {a:Act} {o:Oper}
def ao.upto (R:ao) (g n:Nat) (obj:List RO):ao:=⟨fun b o=>R.I b o∨(b=g∧o < n),obj⟩
theorem aJ {l:List RO} {id i:Nat} {x r y:RO} (afK:nth l id=some y) (h:nth (aB l id x) i=some r):(i=id∧r=x)∨(i≠id∧nth l i=some r):=by
 rcases dp h with ⟨rfl,rfl,_⟩ | ⟨cP,h⟩
 ·exact .inl ⟨rfl,rfl⟩
 ·exact .inr ⟨Ne.symm cP,h⟩
theorem Ea (wf:∀ b o,R.I b o→b < w.heap.size) (x:Obj) (n:Nat) (ro:RO):Ext R w (R.upto w.heap.size n (R.obj++[ro])) (w.drew.alloc x):=
 ⟨fun _ _ h=>.inl h,fun b o h=>b8 (heap_alloc_old w.drew x b (wf b o h)) o,fun _ r h=>⟨r,dq h,cD.refl r⟩,.old fun b hb=>heap_alloc_old w.drew x b hb⟩
theorem Eb (wf:∀ b o,R.I b o→b < w.heap.size) (x:Obj) {n id m:Nat} {r0:RO} (hid:nth R.obj id=some r0) (b' c':Nat) (bV:cD r0 (.tok m b' c')):Ext R w (R.upto w.heap.size n (aB R.obj id (.tok m b' c'))) (w.drew.alloc x):=
 ⟨fun _ _ h=>.inl h,fun b o h=>b8 (heap_alloc_old w.drew x b (wf b o h)) o,fun i r h=>by
  by_cases e:id=i
  ·subst e
   rw [hid] at h
   cases h
   exact ⟨_,aL hid,bV⟩
  ·exact ⟨r,by rw [ao.upto,bM e]; exact h,cD.refl r⟩,.old fun b hb=>heap_alloc_old w.drew x b hb⟩
theorem bn.Tl (h:bn E R w β s a) {cur:Array Value} {elem:TypeId} {n sz cap:Nat} (hn:n≤cap) (hm:cap≤maxLen) (hs:cur.size=cap * sz) :
  bn E (R.upto w.heap.size (n * sz) (R.obj++[.tok n w.heap.size cap])) (w.drew.alloc (.cells cur elem)) β (s.dN (.tok n sz elem)) a ∧
  Step R w β s.boxes (R.upto w.heap.size (n * sz) (R.obj++[.tok n w.heap.size cap])) (w.drew.alloc (.cells cur elem)) β s.boxes:=by
 have e:=Ea (R:=R) (w:=w) h.g.wf (.cells cur elem) (n * sz) (.tok n w.heap.size cap)
 have old:∀ b,b < w.heap.size→(w.drew.alloc (.cells cur elem)).heap[b]?=w.heap[b]?:=fun b hb=>heap_alloc_old w.drew _ b hb
 have new:(w.drew.alloc (.cells cur elem)).heap[w.heap.size]?=some (.cells cur elem (0,0)):=heap_alloc_new w.drew _
 have hI:∀ b o,b < w.heap.size→(R.upto w.heap.size (n * sz) (R.obj++[.tok n w.heap.size cap])).I b o→R.I b o:=fun b o hb hi=>by
  rcases hi with hi | ⟨hi,_⟩
  ·exact hi
  ·omega
 refine ⟨⟨⟨by simp [St.dN,ao.upto,h.g.len],fun id g r h1 h2=>?_,fun i j ri rj b h1 h2 b1 b2=>?_,fun b o hi=>?_,fun g cs hg=>(h.g.cb g cs hg).mono e,by first | exact h.g.lo | exact Nat.le_succ_of_le h.g.lo⟩,?_,h.t.mono e,h.n,h.d.mono e⟩,?_⟩
 ·rcases aA h2 with h2 | ⟨h3,rfl⟩
  ·have bV:=bP h2
   rw [h.g.len] at bV
   rcases aA h1 with h1 | ⟨h4,_⟩
   ·exact (h.g.obj id g r h1 h2).mono e (fun b hb=>old b (h.g.b6 ⟨id,r,h2,hb⟩)) (fun b o hb=>hI b o (h.g.b6 ⟨id,r,h2,hb⟩))
   ·omega
  ·rcases aA h1 with h1 | ⟨h4,rfl⟩
   ·have:=bP h1
    rw [h3,h.g.len] at this
    omega
   ·refine ⟨rfl,cur,new,hn,hm,hs,fun o' nW hi=>?_⟩
    rcases hi with hi | ⟨_,hi⟩
    ·have:=h.g.wf _ _ hi
     omega
    ·omega
 ·rcases aA h1 with g1 | ⟨h3,e1⟩
  ·rcases aA h2 with g2 | ⟨h4,e2⟩
   ·exact h.g.inj i j ri rj b g1 g2 b1 b2
   ·have:=h.g.b6 ⟨i,ri,g1,b1⟩
    rw [e2] at b2
    simp [RO.has] at b2
    omega
  ·rcases aA h2 with g2 | ⟨h4,e2⟩
   ·have:=h.g.b6 ⟨j,rj,g2,b2⟩
    rw [e1] at b1
    simp [RO.has] at b1
    omega
   ·omega
 ·rcases hi with hi | ⟨rfl,_⟩
  ·have:=h.g.wf b o hi
   simp
   omega
  ·simp
 ·refine h.b.bE e (fun k cs hk=>old _ (h.dY (.inr ⟨k,cs,hk,rfl⟩))) (fun k cs o hk=>hI _ o (h.dY (.inr ⟨k,cs,hk,rfl⟩))) (fun k cs hk hl=>?_)
  rcases ma (R:=R) (ro:=.tok n w.heap.size cap) hl with hl | hl
  ·exact hl
  ·have:=h.dY (.inr ⟨k,cs,hk,rfl⟩)
   simp [RO.has] at hl
   omega
 ·refine ⟨e,rfl,rfl,rfl,by simp,fun b hb _=>old b hb,fun b hb ho=>?_,fun b o hi hb _=>hI b o hb hi⟩
  rcases ho with ho | ho
  ·rcases ma (R:=R) (ro:=.tok n w.heap.size cap) ho with ho | ho
   ·exact .inl ho
   ·simp [RO.has] at ho
    omega
  ·exact .inr ho
theorem B0 (wf:∀ b o,R.I b o→b < w.heap.size) (x:Obj) (n:Nat) (ro:RO):Ext R w (R.upto w.heap.size n (R.obj++[ro])) (w.alloc x):=
 ⟨fun _ _ h=>.inl h,fun b o h=>b8 (heap_alloc_old w x b (wf b o h)) o,fun _ r h=>⟨r,dq h,cD.refl r⟩,.old fun b hb=>heap_alloc_old w x b hb⟩
theorem bn.Ns (h:bn E R w β s a) {cur:Array Value} {elem:TypeId} {n sz cap:Nat} (hn:n≤cap) (hm:cap≤maxLen) (hs:cur.size=cap * sz) :
  bn E (R.upto w.heap.size (n * sz) (R.obj++[.tok n w.heap.size cap])) (w.alloc (.cells cur elem)) β (s.dN (.tok n sz elem)) a ∧
  Step R w β s.boxes (R.upto w.heap.size (n * sz) (R.obj++[.tok n w.heap.size cap])) (w.alloc (.cells cur elem)) β s.boxes:=by
 have e:=B0 (R:=R) (w:=w) h.g.wf (.cells cur elem) (n * sz) (.tok n w.heap.size cap)
 have old:∀ b,b < w.heap.size→(w.alloc (.cells cur elem)).heap[b]?=w.heap[b]?:=fun b hb=>heap_alloc_old w _ b hb
 have new:(w.alloc (.cells cur elem)).heap[w.heap.size]?=some (.cells cur elem (0,0)):=heap_alloc_new w _
 have hI:∀ b o,b < w.heap.size→(R.upto w.heap.size (n * sz) (R.obj++[.tok n w.heap.size cap])).I b o→R.I b o:=fun b o hb hi=>by
  rcases hi with hi | ⟨hi,_⟩
  ·exact hi
  ·omega
 refine ⟨⟨⟨by simp [St.dN,ao.upto,h.g.len],fun id g r h1 h2=>?_,fun i j ri rj b h1 h2 b1 b2=>?_,fun b o hi=>?_,fun g cs hg=>(h.g.cb g cs hg).mono e,by first | exact h.g.lo | exact Nat.le_succ_of_le h.g.lo⟩,?_,h.t.mono e,h.n,h.d.mono e⟩,?_⟩
 ·rcases aA h2 with h2 | ⟨h3,rfl⟩
  ·have bV:=bP h2
   rw [h.g.len] at bV
   rcases aA h1 with h1 | ⟨h4,_⟩
   ·exact (h.g.obj id g r h1 h2).mono e (fun b hb=>old b (h.g.b6 ⟨id,r,h2,hb⟩)) (fun b o hb=>hI b o (h.g.b6 ⟨id,r,h2,hb⟩))
   ·omega
  ·rcases aA h1 with h1 | ⟨h4,rfl⟩
   ·have:=bP h1
    rw [h3,h.g.len] at this
    omega
   ·refine ⟨rfl,cur,new,hn,hm,hs,fun o' nW hi=>?_⟩
    rcases hi with hi | ⟨_,hi⟩
    ·have:=h.g.wf _ _ hi
     omega
    ·omega
 ·rcases aA h1 with g1 | ⟨h3,e1⟩
  ·rcases aA h2 with g2 | ⟨h4,e2⟩
   ·exact h.g.inj i j ri rj b g1 g2 b1 b2
   ·have:=h.g.b6 ⟨i,ri,g1,b1⟩
    rw [e2] at b2
    simp [RO.has] at b2
    omega
  ·rcases aA h2 with g2 | ⟨h4,e2⟩
   ·have:=h.g.b6 ⟨j,rj,g2,b2⟩
    rw [e1] at b1
    simp [RO.has] at b1
    omega
   ·omega
 ·rcases hi with hi | ⟨rfl,_⟩
  ·have:=h.g.wf b o hi
   simp
   omega
  ·simp
 ·refine h.b.bE e (fun k cs hk=>old _ (h.dY (.inr ⟨k,cs,hk,rfl⟩))) (fun k cs o hk=>hI _ o (h.dY (.inr ⟨k,cs,hk,rfl⟩))) (fun k cs hk hl=>?_)
  rcases ma (R:=R) (ro:=.tok n w.heap.size cap) hl with hl | hl
  ·exact hl
  ·have:=h.dY (.inr ⟨k,cs,hk,rfl⟩)
   simp [RO.has] at hl
   omega
 ·refine ⟨e,rfl,rfl,rfl,by simp,fun b hb _=>old b hb,fun b hb ho=>?_,fun b o hi hb _=>hI b o hb hi⟩
  rcases ho with ho | ho
  ·rcases ma (R:=R) (ro:=.tok n w.heap.size cap) ho with ho | ho
   ·exact .inl ho
   ·simp [RO.has] at ho
    omega
  ·exact .inr ho
theorem sY (h:bn E R w β s a) (t:TypeId) (len:Nat) (parts:Array (Nat × Operand)) (ho:o.op=.buildSlice t len parts) {k:LK} {esz:Nat} {es:List AV} (hv:ca E s t len parts.toList=some (.list k esz es)) {i:TI} (hi:E.ti t=some i) {elem bN oa:Nat} {ag:Bool} {z:Option AV} (hk:i.k=.sl elem bN ag oa z) (hm:len≤65536) :
  bW E R w β s a o ((s.dN (.tok len esz elem)).put o.dst (.v (.list (.own s.G.length) esz es))):=by
 obtain ⟨es',Tg,us,XE,Xy,bG,g2,hlen,u2,u3,i',ag',Xx,z',sQ,iR⟩:=iz h t len parts ho hv
 cases Xy
 rw [hi] at sQ
 cases sQ
 rw [hk] at iR
 cases iR
 have XF:us.length=len * esz:=by rw [← u2.length,dK g2,hlen]
 obtain ⟨r1,r2⟩:=h.Ns (cur:=⟨us⟩) (elem:=elem) (n:=len) (sz:=esz) (cap:=len) (Nat.le_refl _) (by simp [maxLen]; omega) (by simpa using XF)
 refine ⟨_,.slice (some ⟨w.heap.size,0,none⟩) len len,_,_,β,bG,.inl rfl,r1.put o.dst (x:=.v (.list (.own s.G.length) esz es)) ?_,by rw [a8]; exact r2⟩
 refine Rel.list (me g2 (dO.make (u2.mono r2.ext) u3 (fun j x hx=>?_) (fun j hj=>.inr ⟨rfl,?_⟩))) hlen.symm (Nat.le_refl _) ⟨.tok len w.heap.size len,fZ h _,?_⟩
 ·rw [jl (heap_alloc_new w _)]
  simpa using hx
 ·rw [dK g2,hlen] at hj
  omega
 ·exact ⟨Nat.le_refl _,fun _=>⟨rfl,rfl,rfl⟩⟩
theorem bn.Ji (h:bn E R w β s a) {cur:Array Value} {elem e0:TypeId} {n sz cap id f:Nat} {r0:RO} (hg:nth s.G id=some (.tok f sz e0)) (hid:nth R.obj id=some r0) (hf:∀ b c,cD r0 (.tok n b c)) (hn:n≤cap) (hm:cap≤maxLen) (hs:cur.size=cap * sz) :
  bn E (R.upto w.heap.size (n * sz) (aB R.obj id (.tok n w.heap.size cap))) (w.drew.alloc (.cells cur elem)) β (s.b9 (aB s.G id (.tok n sz elem))) a ∧
  Step R w β s.boxes (R.upto w.heap.size (n * sz) (aB R.obj id (.tok n w.heap.size cap))) (w.drew.alloc (.cells cur elem)) β s.boxes:=by
 have e:=Eb (R:=R) (w:=w) (n:=n * sz) h.g.wf (.cells cur elem) hid w.heap.size cap (hf _ _)
 have old:∀ b,b < w.heap.size→(w.drew.alloc (.cells cur elem)).heap[b]?=w.heap[b]?:=fun b hb=>heap_alloc_old w.drew _ b hb
 have new:(w.drew.alloc (.cells cur elem)).heap[w.heap.size]?=some (.cells cur elem (0,0)):=heap_alloc_new w.drew _
 have hI:∀ b o,b < w.heap.size→(R.upto w.heap.size (n * sz) (aB R.obj id (.tok n w.heap.size cap))).I b o→R.I b o:=fun b o hb hi=>by
  rcases hi with hi | ⟨hi,_⟩
  ·exact hi
  ·omega
 have live:∀ b,b < w.heap.size→Live (R.upto w.heap.size (n * sz) (aB R.obj id (.tok n w.heap.size cap))) b→Live R b:=fun b hb hl=>by
  obtain ⟨i,r,h1,h2⟩:=hl
  rcases aJ hid h1 with ⟨_,rfl⟩ | ⟨_,h1⟩
  ·simp [RO.has] at h2
   omega
  ·exact ⟨i,r,h1,h2⟩
 refine ⟨⟨⟨by simp [St.b9,ao.upto,h.g.len],fun i gg r h1 h2=>?_,fun i j ri rj b h1 h2 b1 b2=>?_,fun b o hi=>?_,fun g cs hg=>(h.g.cb g cs hg).mono e,by first | exact h.g.lo | exact Nat.le_succ_of_le h.g.lo⟩,?_,h.t.mono e,h.n,h.d.mono e⟩,?_⟩
 ·rcases aJ hid h2 with ⟨rfl,rfl⟩ | ⟨cP,h2⟩
  ·simp only [St.b9] at h1
   rw [aL hg] at h1
   cases h1
   refine ⟨rfl,cur,new,hn,hm,hs,fun o' nW hi=>?_⟩
   rcases hi with hi | ⟨_,hi⟩
   ·have:=h.g.wf _ _ hi
    omega
   ·omega
  ·simp only [St.b9] at h1
   rw [bM (Ne.symm cP)] at h1
   exact (h.g.obj i gg r h1 h2).mono e (fun b hb=>old b (h.g.b6 ⟨i,r,h2,hb⟩)) (fun b o hb=>hI b o (h.g.b6 ⟨i,r,h2,hb⟩))
 ·rcases aJ hid h1 with ⟨g3,e1⟩ | ⟨g3,g1⟩
  ·rcases aJ hid h2 with ⟨g4,e2⟩ | ⟨g4,g2⟩
   ·omega
   ·have:=h.g.b6 ⟨j,rj,g2,b2⟩
    rw [e1] at b1
    simp [RO.has] at b1
    omega
  ·rcases aJ hid h2 with ⟨g4,e2⟩ | ⟨g4,g2⟩
   ·have:=h.g.b6 ⟨i,ri,g1,b1⟩
    rw [e2] at b2
    simp [RO.has] at b2
    omega
   ·exact h.g.inj i j ri rj b g1 g2 b1 b2
 ·rcases hi with hi | ⟨rfl,_⟩
  ·have:=h.g.wf b o hi
   simp
   omega
  ·simp
 ·exact h.b.bE e (fun k cs hk=>old _ (h.dY (.inr ⟨k,cs,hk,rfl⟩))) (fun k cs o hk=>hI _ o (h.dY (.inr ⟨k,cs,hk,rfl⟩))) (fun k cs hk hl=>live _ (h.dY (.inr ⟨k,cs,hk,rfl⟩)) hl)
 ·refine ⟨e,rfl,rfl,rfl,by simp,fun b hb _=>old b hb,fun b hb ho=>?_,fun b o hi hb _=>hI b o hb hi⟩
  rcases ho with ho | ho
  ·exact .inl (live b hb ho)
  ·exact .inr ho
theorem bn.Nt (h:bn E R w β s a) {cur:Array Value} {news:List Value} {elem:TypeId} {n sz id f g c:Nat} (hg:nth s.G id=some (.tok f sz elem)) (hid:nth R.obj id=some (.tok f g c)) (hf:f < n) (hn:n≤c)
  (iO:w.heap[g]?=some (.cells cur elem (0,0))) (hs:cur.size=c * sz) (hm:c≤maxLen) (hl:f * sz+news.length=n * sz) :
  Ext R w (R.upto g (n * sz) (aB R.obj id (.tok n g c))) (w.setRow g (cur.toList.take (f * sz)++news++cur.toList.drop (f * sz+news.length)).toArray) ∧
  bn E (R.upto g (n * sz) (aB R.obj id (.tok n g c))) (w.setRow g (cur.toList.take (f * sz)++news++cur.toList.drop (f * sz+news.length)).toArray) β (s.b9 (aB s.G id (.tok n sz elem))) a ∧
  Step R w β s.boxes (R.upto g (n * sz) (aB R.obj id (.tok n g c))) (w.setRow g (cur.toList.take (f * sz)++news++cur.toList.drop (f * sz+news.length)).toArray) β s.boxes:=by
 obtain ⟨_,B1,RV,_,_,_,jm⟩:=h.g.obj id _ _ hg hid
 rw [iO] at RV
 cases RV
 have hle:n * sz≤c * sz:=Nat.mul_le_mul_right _ hn
 generalize ol:(cur.toList.take (f * sz)++news++cur.toList.drop (f * sz+news.length)).toArray=cur2
 have old:∀ b,b≠g→(w.setRow g cur2).heap[b]?=w.heap[b]?:=fun b hb=>setRow_other w g b cur2 hb
 have new:(w.setRow g cur2).heap[g]?=some (.cells cur2 elem (0,0)):=setRow_heap w g cur cur2 elem (0,0) iO
 have hlen:f * sz≤cur.toList.length:=by simp; omega
 have eC:cur2.size=c * sz:=by
  rw [← ol]
  simp
  omega
 have qx:Live R g:=⟨id,_,hid,rfl⟩
 have e:Ext R w (R.upto g (n * sz) (aB R.obj id (.tok n g c))) (w.setRow g cur2):=by
  refine ⟨fun _ _ hi=>.inl hi,fun b o hi=>?_,fun i r hr=>?_,fun b r hb=>⟨r,(old b fun e=>by subst e; rw [iO] at hb; cases hb).trans hb,rfl,rfl,rfl,rfl,rfl⟩⟩
  ·by_cases hb:b=g
   ·subst hb
    have ho:o < f * sz:=Nat.lt_of_not_le fun hle=>jm o hle hi
    simp only [World.cell?,new,iO]
    have:cur2[o]?=cur[o]?:=by
     rw [← ol,List.append_assoc]
     simp only [List.getElem?_toArray]
     rw [List.getElem?_append_left (by simp; omega),List.getElem?_take,if_pos ho,Array.getElem?_toList]
    simp [this]
   ·exact b8 (old b hb) o
  ·by_cases ei:id=i
   ·subst ei
    rw [hid] at hr
    cases hr
    exact ⟨_,aL hid,by omega,fun e=>by omega⟩
   ·exact ⟨r,by rw [ao.upto,bM ei]; exact hr,cD.refl r⟩
 have hI:∀ b o,b≠g→(R.upto g (n * sz) (aB R.obj id (.tok n g c))).I b o→R.I b o:=fun b o hb hi=>by
  rcases hi with hi | ⟨hi,_⟩
  ·exact hi
  ·exact absurd hi hb
 have live:∀ b,Live (R.upto g (n * sz) (aB R.obj id (.tok n g c))) b→Live R b:=fun b hl=>by
  obtain ⟨i,r,h1,h2⟩:=hl
  rcases aJ hid h1 with ⟨_,rfl⟩ | ⟨_,h1⟩
  ·exact ⟨id,_,hid,h2⟩
  ·exact ⟨i,r,h1,h2⟩
 have qy:∀ k cs,dv s.boxes k=some cs→β k≠g:=fun k cs hk eq=>(h.b.box k cs hk).2.2 (eq ▸ qx)
 refine ⟨e,⟨⟨by simp [St.b9,ao.upto,h.g.len],fun i gg r h1 h2=>?_,fun i j ri rj b h1 h2 b1 b2=>?_,fun b o hi=>?_,fun g cs hg=>(h.g.cb g cs hg).mono e,by first | exact h.g.lo | exact Nat.le_succ_of_le h.g.lo⟩,?_,h.t.mono e,h.n,h.d.mono e⟩,?_⟩
 ·rcases aJ hid h2 with ⟨rfl,rfl⟩ | ⟨cP,h2⟩
  ·simp only [St.b9] at h1
   rw [aL hg] at h1
   cases h1
   refine ⟨rfl,cur2,new,hn,hm,eC,fun o' nW hi=>?_⟩
   rcases hi with hi | ⟨_,hi⟩
   ·exact jm o' (Nat.le_trans (Nat.mul_le_mul_right _ (Nat.le_of_lt hf)) nW) hi
   ·omega
  ·simp only [St.b9] at h1
   rw [bM (Ne.symm cP)] at h1
   have Tm:∀ b,r.has b→b≠g:=fun b hb eq=>cP (h.g.inj i id _ _ b h2 hid hb (by rw [eq]; rfl))
   exact (h.g.obj i gg r h1 h2).mono e (fun b hb=>old b (Tm b hb)) (fun b o hb=>hI b o (Tm b hb))
 ·rcases aJ hid h1 with ⟨g3,e1⟩ | ⟨g3,g1⟩
  ·rcases aJ hid h2 with ⟨g4,e2⟩ | ⟨g4,g2⟩
   ·omega
   ·rw [e1] at b1
    exact g3.trans (h.g.inj id j _ _ b hid g2 b1 b2)
  ·rcases aJ hid h2 with ⟨g4,e2⟩ | ⟨g4,g2⟩
   ·rw [e2] at b2
    exact (h.g.inj i id _ _ b g1 hid b1 b2).trans g4.symm
   ·exact h.g.inj i j ri rj b g1 g2 b1 b2
 ·rcases hi with hi | ⟨rfl,_⟩
  ·have:=h.g.wf b o hi
   simpa using this
  ·have:=bl iO
   simpa using this
 ·exact h.b.bE e (fun k cs hk=>old _ (qy k cs hk)) (fun k cs o hk=>hI _ o (qy k cs hk)) (fun k cs hk hl=>live _ hl)
 ·refine ⟨e,rfl,rfl,rfl,by simp,fun b hb sZ=>old b (fun eq=>sZ (.inl (eq ▸ qx))),fun b hb ho=>?_,fun b o hi hb sZ=>hI b o (fun eq=>sZ (.inl (eq ▸ qx))) hi⟩
  rcases ho with ho | ho
  ·exact .inl (live b ho)
  ·exact .inr ho
structure One (w w':World) (x:Obj):Prop where
 old:∀ b,b < w.heap.size→w'.heap[b]?=w.heap[b]?
 new:w'.heap[w.heap.size]?=some x
 size:w'.heap.size=w.heap.size+1
 os:w'.os=w.os
 tape:w'.tape=w.tape
 output:w'.output=w.output
 drawn:w.drawn≤w'.drawn
theorem One.alloc (w:World) (x:Obj):One w (w.alloc x) x:=⟨fun b hb=>heap_alloc_old w x b hb,heap_alloc_new w x,by simp,rfl,rfl,rfl,Nat.le_refl _⟩
theorem One.drew (w:World) (x:Obj):One w (w.drew.alloc x) x:=⟨fun b hb=>heap_alloc_old w.drew x b hb,heap_alloc_new w.drew x,by simp,rfl,rfl,rfl,Nat.le_succ _⟩
theorem Nu {w':World} {x:Obj} (o1:One w w' x) (wf:∀ b o,R.I b o→b < w.heap.size) {n id:Nat} {r0 r1:RO} (hid:nth R.obj id=some r0) (hle:cD r0 r1):Ext R w (R.upto w.heap.size n (aB R.obj id r1)) w':=
 ⟨fun _ _ h=>.inl h,fun b o h=>b8 (o1.old b (wf b o h)) o,fun i r h=>by
  by_cases e:id=i
  ·subst e
   rw [hid] at h
   cases h
   exact ⟨_,aL hid,hle⟩
  ·exact ⟨r,by rw [ao.upto,bM e]; exact h,cD.refl r⟩,.old fun b hb=>o1.old b hb⟩
theorem bn.Tn (h:bn E R w β s a) {w':World} {x:Obj} (o1:One w w' x) {n id:Nat} {r0 r1:RO} {IU go:GO} (hg:nth s.G id=some IU) (hid:nth R.obj id=some r0) (hle:cD r0 r1) (vJ:∀ b,r1.has b→b=w.heap.size∨r0.has b)
  (iq:gG (R.upto w.heap.size n (aB R.obj id r1)) w' go r1) :
  bn E (R.upto w.heap.size n (aB R.obj id r1)) w' β (s.b9 (aB s.G id go)) a∧Step R w β s.boxes (R.upto w.heap.size n (aB R.obj id r1)) w' β s.boxes:=by
 have e:=Nu (R:=R) (n:=n) o1 h.g.wf hid hle
 have hI:∀ b o,b < w.heap.size→(R.upto w.heap.size n (aB R.obj id r1)).I b o→R.I b o:=fun b o hb hi=>by
  rcases hi with hi | ⟨hi,_⟩
  ·exact hi
  ·omega
 have live:∀ b,b < w.heap.size→Live (R.upto w.heap.size n (aB R.obj id r1)) b→Live R b:=fun b hb hl=>by
  obtain ⟨i,r,h1,h2⟩:=hl
  rcases aJ hid h1 with ⟨_,rfl⟩ | ⟨_,h1⟩
  ·rcases vJ b h2 with h3 | h3
   ·omega
   ·exact ⟨id,r0,hid,h3⟩
  ·exact ⟨i,r,h1,h2⟩
 refine ⟨⟨⟨by simp [St.b9,ao.upto,h.g.len],fun i gg r h1 h2=>?_,fun i j ri rj b h1 h2 b1 b2=>?_,fun b o hi=>?_,fun g cs hg=>(h.g.cb g cs hg).mono e,Nat.le_trans h.g.lo o1.drawn⟩,?_,h.t.mono e,h.n,h.d.mono e⟩,?_⟩
 ·rcases aJ hid h2 with ⟨rfl,rfl⟩ | ⟨cP,h2⟩
  ·simp only [St.b9] at h1
   rw [aL hg] at h1
   cases h1
   exact iq
  ·simp only [St.b9] at h1
   rw [bM (Ne.symm cP)] at h1
   exact (h.g.obj i gg r h1 h2).mono e (fun b hb=>o1.old b (h.g.b6 ⟨i,r,h2,hb⟩)) (fun b o hb=>hI b o (h.g.b6 ⟨i,r,h2,hb⟩))
 ·rcases aJ hid h1 with ⟨g3,e1⟩ | ⟨g3,g1⟩
  ·rcases aJ hid h2 with ⟨g4,e2⟩ | ⟨g4,g2⟩
   ·omega
   ·rw [e1] at b1
    rcases vJ b b1 with b3 | b3
    ·have:=h.g.b6 ⟨j,rj,g2,b2⟩
     omega
    ·exact g3.trans (h.g.inj id j _ _ b hid g2 b3 b2)
  ·rcases aJ hid h2 with ⟨g4,e2⟩ | ⟨g4,g2⟩
   ·rw [e2] at b2
    rcases vJ b b2 with b3 | b3
    ·have:=h.g.b6 ⟨i,ri,g1,b1⟩
     omega
    ·exact (h.g.inj i id _ _ b g1 hid b1 b3).trans g4.symm
   ·exact h.g.inj i j ri rj b g1 g2 b1 b2
 ·rcases hi with hi | ⟨rfl,_⟩
  ·have:=h.g.wf b o hi
   rw [o1.size]
   omega
  ·rw [o1.size]; omega
 ·exact h.b.bE e (fun k cs hk=>o1.old _ (h.dY (.inr ⟨k,cs,hk,rfl⟩))) (fun k cs o hk=>hI _ o (h.dY (.inr ⟨k,cs,hk,rfl⟩))) (fun k cs hk hl=>live _ (h.dY (.inr ⟨k,cs,hk,rfl⟩)) hl)
 ·refine ⟨e,o1.os,o1.tape,o1.output,by rw [o1.size]; omega,fun b hb _=>o1.old b hb,fun b hb ho=>?_,fun b o hi hb _=>hI b o hb hi⟩
  rcases ho with ho | ho
  ·exact .inl (live b hb ho)
  ·exact .inr ho
theorem bn.Nv (h:bn E R w β s a) {cur cur2:Array Value} {elem:TypeId} {n id g:Nat} {r0 r1:RO} {IU go:GO} (hg:nth s.G id=some IU) (hid:nth R.obj id=some r0) (M4:r0.has g) (hle:cD r0 r1) (vJ:∀ b,r1.has b→r0.has b)
  (iO:w.heap[g]?=some (.cells cur elem (0,0))) (vK:∀ o,R.I g o→cur2[o]?=cur[o]?)
  (iq:Ext R w (R.upto g n (aB R.obj id r1)) (w.setRow g cur2)→gG (R.upto g n (aB R.obj id r1)) (w.setRow g cur2) go r1) :
  Ext R w (R.upto g n (aB R.obj id r1)) (w.setRow g cur2)∧bn E (R.upto g n (aB R.obj id r1)) (w.setRow g cur2) β (s.b9 (aB s.G id go)) a∧Step R w β s.boxes (R.upto g n (aB R.obj id r1)) (w.setRow g cur2) β s.boxes:=by
 have old:∀ b,b≠g→(w.setRow g cur2).heap[b]?=w.heap[b]?:=fun b hb=>setRow_other w g b cur2 hb
 have new:(w.setRow g cur2).heap[g]?=some (.cells cur2 elem (0,0)):=setRow_heap w g cur cur2 elem (0,0) iO
 have qx:Live R g:=⟨id,_,hid,M4⟩
 have e:Ext R w (R.upto g n (aB R.obj id r1)) (w.setRow g cur2):=by
  refine ⟨fun _ _ hi=>.inl hi,fun b o hi=>?_,fun i r hr=>?_,fun b r hb=>⟨r,(old b fun e=>by subst e; rw [iO] at hb; cases hb).trans hb,rfl,rfl,rfl,rfl,rfl⟩⟩
  ·by_cases hb:b=g
   ·subst hb
    simp only [World.cell?,new,iO,vK o hi]
   ·exact b8 (old b hb) o
  ·by_cases ei:id=i
   ·subst ei
    rw [hid] at hr
    cases hr
    exact ⟨_,aL hid,hle⟩
   ·exact ⟨r,by rw [ao.upto,bM ei]; exact hr,cD.refl r⟩
 have hI:∀ b o,b≠g→(R.upto g n (aB R.obj id r1)).I b o→R.I b o:=fun b o hb hi=>by
  rcases hi with hi | ⟨hi,_⟩
  ·exact hi
  ·exact absurd hi hb
 have live:∀ b,Live (R.upto g n (aB R.obj id r1)) b→Live R b:=fun b hl=>by
  obtain ⟨i,r,h1,h2⟩:=hl
  rcases aJ hid h1 with ⟨_,rfl⟩ | ⟨_,h1⟩
  ·exact ⟨id,_,hid,vJ b h2⟩
  ·exact ⟨i,r,h1,h2⟩
 have qy:∀ k cs,dv s.boxes k=some cs→β k≠g:=fun k cs hk eq=>(h.b.box k cs hk).2.2 (eq ▸ qx)
 refine ⟨e,⟨⟨by simp [St.b9,ao.upto,h.g.len],fun i gg r h1 h2=>?_,fun i j ri rj b h1 h2 b1 b2=>?_,fun b o hi=>?_,fun g cs hg=>(h.g.cb g cs hg).mono e,h.g.lo⟩,?_,h.t.mono e,h.n,h.d.mono e⟩,?_⟩
 ·rcases aJ hid h2 with ⟨rfl,rfl⟩ | ⟨cP,h2⟩
  ·simp only [St.b9] at h1
   rw [aL hg] at h1
   cases h1
   exact iq e
  ·simp only [St.b9] at h1
   rw [bM (Ne.symm cP)] at h1
   have Tm:∀ b,r.has b→b≠g:=fun b hb eq=>cP (h.g.inj i id _ _ b h2 hid hb (by rw [eq]; exact M4))
   exact (h.g.obj i gg r h1 h2).mono e (fun b hb=>old b (Tm b hb)) (fun b o hb=>hI b o (Tm b hb))
 ·rcases aJ hid h1 with ⟨g3,e1⟩ | ⟨g3,g1⟩
  ·rcases aJ hid h2 with ⟨g4,e2⟩ | ⟨g4,g2⟩
   ·omega
   ·rw [e1] at b1
    exact g3.trans (h.g.inj id j _ _ b hid g2 (vJ b b1) b2)
  ·rcases aJ hid h2 with ⟨g4,e2⟩ | ⟨g4,g2⟩
   ·rw [e2] at b2
    exact (h.g.inj i id _ _ b g1 hid b1 (vJ b b2)).trans g4.symm
   ·exact h.g.inj i j ri rj b g1 g2 b1 b2
 ·rcases hi with hi | ⟨rfl,_⟩
  ·have:=h.g.wf b o hi
   simpa using this
  ·have:=bl iO
   simpa using this
 ·exact h.b.bE e (fun k cs hk=>old _ (qy k cs hk)) (fun k cs o hk=>hI _ o (qy k cs hk)) (fun k cs hk hl=>live _ hl)
 ·refine ⟨e,rfl,rfl,rfl,by simp,fun b hb sZ=>old b (fun eq=>sZ (.inl (eq ▸ qx))),fun b hb ho=>?_,fun b o hi hb sZ=>hI b o (fun eq=>sZ (.inl (eq ▸ qx))) hi⟩
  rcases ho with ho | ho
  ·exact .inl (live b ho)
  ·exact .inr ho
theorem sP.set {ts:List TR} {j:Nat} {t t':TR} (ht:nth ts j=some t) (hle:lB t t'):sP ts (aB ts j t'):=fun i u hu=>by
 by_cases e:j=i
 ·subst e
  rw [ht] at hu
  cases hu
  exact ⟨t',aL ht,hle⟩
 ·exact ⟨u,by rw [bM e]; exact hu,lB.refl u⟩
theorem F1 {ts:List TR} {j n g c b:Nat} (h:RO.has (.bk (aB ts j (.tok n g c))) b):b=g∨RO.has (.bk ts) b:=by
 obtain ⟨i,f,c',hi⟩:=h
 rcases dp hi with ⟨_,e,_⟩ | ⟨_,hi⟩
 ·cases e; exact .inl rfl
 ·exact .inr ⟨i,f,c',hi⟩
theorem zh.of {R':ao} {w':World} {sz f:Nat} {e:TypeId} {t:TR} (h:zh R w sz e f t) (hold:∀ f b c,t=.tok f b c→w'.heap[b]?=w.heap[b]?∧∀ o,R'.I b o→R.I b o):zh R' w' sz e f t:=by
 cases t with
 | bJ=>exact h
 | full f'=>exact h
 | tok f' b c=>
  obtain ⟨h0,cur,h1,h2,h3,h4,h5⟩:=h
  obtain ⟨k1,k2⟩:=hold f' b c rfl
  exact ⟨h0,cur,k1.trans h1,h2,h3,h4,fun o ho hi=>h5 o ho (k2 o hi)⟩
theorem vu.set {R':ao} {w':World} {sz:Nat} {e:TypeId} {fs:List Nat} {ts:List TR} (h:vu R w sz e fs ts) {j n g c:Nat} (ol:zh R' w' sz e n (.tok n g c)) (Jj:∀ i f c,nth ts i=some (.tok f g c)→i=j)
  (hold:∀ i f b c,i≠j→nth ts i=some (.tok f b c)→w'.heap[b]?=w.heap[b]?∧∀ o,R'.I b o→R.I b o):vu R' w' sz e (aB fs j n) (aB ts j (.tok n g c)):=by
 obtain ⟨h1,h2,h3⟩:=h
 refine ⟨by simp [h1],fun i i' f1 b c1 f2 c2 q1 q2=>?_,fun i f1 t1 q1 q2=>?_⟩
 ·rcases dp q1 with ⟨n1,e1,_⟩ | ⟨n1,q1⟩
  ·cases e1
   rcases dp q2 with ⟨n2,_,_⟩ | ⟨n2,q2⟩
   ·exact n1.symm.trans n2
   ·exact absurd (Jj _ _ _ q2).symm n2
  ·rcases dp q2 with ⟨n2,e2,_⟩ | ⟨n2,q2⟩
   ·cases e2
    exact (Jj _ _ _ q1).trans n2
   ·exact h2 i i' _ _ _ _ _ q1 q2
 ·rcases dp q1 with ⟨n1,e1,_⟩ | ⟨n1,q1⟩
  ·rcases dp q2 with ⟨_,e2,_⟩ | ⟨n2,_⟩
   ·subst e1 e2
    exact ol
   ·exact absurd n1 n2
  ·rcases dp q2 with ⟨n2,_,_⟩ | ⟨n2,q2⟩
   ·exact absurd n2 n1
   ·exact (h3 i f1 t1 q1 q2).of fun f b c ht=>by subst ht; exact hold i f b c (Ne.symm n2) q2
end ops
end Go.Am
