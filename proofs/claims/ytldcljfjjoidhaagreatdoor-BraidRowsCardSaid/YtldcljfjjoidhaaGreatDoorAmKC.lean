/- The abstract machine: what it does is what the model does: slices that are built and cut. -/
import Derived.Test.YtldcljfjjoidhaaGreatDoorAmKB
import Derived.IntWalk
set_option linter.all false
namespace Go.Am
open Go
theorem cK (l r:List AV):av (l++r)=av l++av r:=by
 induction l with
 | nil=>rfl
 | cons e l ih=>simp [av,ih]
theorem dL {sz:Nat} {es:List AV} (h:ji sz es):(av es).length=es.length * sz:=by
 induction es with
 | nil=>simp [av]
 | cons e es ih=>
  have h1:=(h e (by simp)).1
  have:=ih (fun x hx=>h x (by simp [hx]))
  simp only [av,List.length_append,this,h1,List.length_cons,Nat.add_mul]
  omega
section rel
variable {R:ai} {w:World}
theorem me {b sz:Nat}:∀ {es:List AV} {o:Nat},ji sz es→dP R w b o (av es)→gk R w b o sz es
 | [],_,_,_=>.nil
 | e :: es,o,h,hc=>by
  obtain ⟨h1,h2,h3⟩:=h e (by simp)
  obtain ⟨vs,k1,k2,k3,k4⟩:=hc.get
  have hd:=hc.drop sz
  have V4:(av (e :: es)).drop sz=av es:=by simp only [av]; rw [← h1,List.drop_left]
  have IT:(av (e :: es)).take sz=e.cells:=by simp only [av]; rw [← h1,List.take_left]
  rw [V4] at hd
  refine .cons h1 h2 h3 ?_ (me (fun x hx=>h x (by simp [hx])) hd)
  have kt:=k1.take sz
  rw [IT] at kt
  refine .make kt (fun v hv=>k2 v (List.mem_of_mem_take hv)) (fun j v hv=>k3 j v ?_) (fun j hj=>k4 j ?_)
  ·rw [List.getElem?_take] at hv
   split at hv
   ·exact hv
   ·cases hv
  ·simp only [av,List.length_append]
   omega
theorem vK {b sz:Nat}:∀ {es:List AV} {o:Nat},gk R w b o sz es→ji sz es∧∃ vs,aM R w (av es) vs∧(∀ v∈vs,v.oneCell'=true)∧(∀ j v,vs[j]?=some v→w.cell? ⟨b,o+j,none⟩=some v)∧∀ j,j < es.length * sz→R.I b (o+j)
 | [],o,_=>⟨fun e he=>by simp at he,[],.nil,by simp,by simp,by simp⟩
 | e :: es,o,h=>by
  cases h with
  | cons hl ht hk hc t=>
   obtain ⟨g0,vs,g1,g2,g3,g4⟩:=vK t
   obtain ⟨us,f1,f2,f3,f4⟩:=hc.get
   have hlen:us.length=sz:=by rw [← f1.length,hl]
   refine ⟨fun x hx=>?_,us++vs,f1.append g1,fun v hv=>?_,fun j v hv=>?_,fun j hj=>?_⟩
   ·rcases List.mem_cons.1 hx with rfl | hx
    ·exact ⟨hl,ht,hk⟩
    ·exact g0 x hx
   ·rcases List.mem_append.1 hv with hv | hv
    ·exact f2 v hv
    ·exact g2 v hv
   ·by_cases hj:j < sz
    ·rw [List.getElem?_append_left (by omega)] at hv
     exact f3 j v hv
    ·rw [List.getElem?_append_right (by omega),hlen] at hv
     have:=g3 _ v hv
     rwa [show o+sz+(j - sz)=o+j by omega] at this
   ·by_cases MG:j < sz
    ·exact f4 j (by omega)
    ·have:=g4 (j - sz) (by simp only [List.length_cons,Nat.add_mul] at hj; omega)
     rwa [show o+sz+(j - sz)=o+j by omega] at this
theorem zo {b sz:Nat}:∀ (n:Nat) {es:List AV} {o:Nat},gk R w b o sz es→gk R w b (o+n * sz) sz (es.drop n)
 | 0,es,o,h=>by simpa using h
 | n+1,[],o,h=>by simpa using gk.nil
 | n+1,e :: es,o,h=>by
  cases h with
  | cons hl ht hk hc t=>
   have:=zo n t
   rw [show o+sz+n * sz=o+(n+1) * sz by rw [Nat.add_mul]; omega] at this
   simpa using this
theorem sP {b sz:Nat}:∀ (n:Nat) {es:List AV} {o:Nat},gk R w b o sz es→gk R w b o sz (es.take n)
 | 0,es,o,h=>by simpa using gk.nil
 | n+1,[],o,h=>by simpa using gk.nil
 | n+1,e :: es,o,h=>by
  cases h with
  | cons hl ht hk hc t=>simpa using gk.cons hl ht hk hc (sP n t)
end rel
theorem fP {sz n:Nat} {z:AV} (h1:z.cells.length=sz) (h2:z.aV=true) (h3:z.closed=true):ji sz (List.replicate n z):=fun e he=>by
 rw [List.mem_replicate] at he
 rw [he.2]
 exact ⟨h1,h2,h3⟩
theorem vL {sz:Nat}:∀ {es:List AV} {i:Nat} {v:AV},ji sz es→i < es.length→v.cells.length=sz→av (aD es i v)=bZ (av es) (i * sz) v.cells
 | [],i,v,_,h,_=>by simp at h
 | e :: es,0,v,h,_,hv=>by
  have h1:=(h e (by simp)).1
  simp only [aD,av,Nat.zero_mul]
  rw [eU _ 0 _ (by simp; omega)]
  simp only [List.take_zero,List.nil_append,Nat.zero_add]
  rw [hv,← h1,List.drop_left]
 | e :: es,i+1,v,h,hi,hv=>by
  have h1:=(h e (by simp)).1
  have Ir:ji sz es:=fun x hx=>h x (by simp [hx])
  have ih:=vL (i:=i) (v:=v) Ir (by simpa using hi) hv
  have cg:i < es.length:=by simpa using hi
  have hle:i * sz+sz≤es.length * sz:=by rw [← Nat.succ_mul]; exact Nat.mul_le_mul_right _ cg
  have hl:=dL Ir
  simp only [aD,av]
  have e1:(i+1) * sz=e.cells.length+i * sz:=by rw [h1,Nat.succ_mul]; omega
  have e2:List.take (e.cells.length+i * sz) e.cells=e.cells:=List.take_of_length_le (by omega)
  rw [ih,eU _ _ _ (by omega),e1,eU _ _ _ (by simp only [List.length_append]; omega)]
  rw [List.take_append,e2,Nat.add_assoc,List.drop_append,List.drop_of_length_le (by omega:e.cells.length≤e.cells.length+(i * sz+v.cells.length))]
  simp [Nat.add_sub_cancel_left]
theorem G5 {sz:Nat} {es:List AV} {i:Nat} {v:AV} (h:ji sz es) (h1:v.cells.length=sz) (h2:v.aV=true) (h3:v.closed=true):ji sz (aD es i v):=fun e he=>by
 rw [gP] at he
 rcases List.mem_or_eq_of_mem_set he with he | rfl
 ·exact h e he
 ·exact ⟨h1,h2,h3⟩
theorem tM {sz:Nat}:∀ {ps:List (Nat × AV)} {es es':List AV},BO sz es ps=some es'→ji sz es →
  tH (fun i=>some (i * sz,sz)) (av es) ps=some (av es')∧ji sz es'∧es'.length=es.length
 | [],es,es',h,hk=>by simp [BO] at h; subst h; exact ⟨rfl,hk,rfl⟩
 | (i,v) :: ps,es,es',h,hk=>by
  unfold BO at h
  split at h
  ·rename_i hc
   simp only [Bool.and_eq_true] at hc
   obtain ⟨⟨⟨hn,hl⟩,hi⟩,G6⟩:=hc
   have hl':=Nat.eq_of_beq_eq_true hl
   have qM:=Nat.le_of_ble_eq_true hi
   obtain ⟨g1,g2,g3⟩:=tM h (G5 hk hl' hn G6)
   refine ⟨?_,g2,by simpa using g3⟩
   unfold tH
   have hle:Nat.ble (i * sz+sz) (av es).length=true:=by
    apply Nat.ble_eq_true_of_le
    rw [dL hk,← Nat.succ_mul]
    exact Nat.mul_le_mul_right _ qM
   simp only [hn,hl,hle,Bool.and_self,if_true]
   rw [← vL hk (by omega) hl']
   exact g1
  ·cases h
section ops
variable {E:Env} {R:ai} {w:World} {β:Nat→Nat} {s:St} {a:Act} {o:Oper}
def ai.Vi (R:ai) (b:Nat):ai:=⟨fun b' o=>R.I b' o∨b'=b,R.obj⟩
theorem Az (wf:∀ b o,R.I b o→b < w.heap.size) (x:Obj):Ext R w (R.Vi w.heap.size) (w.alloc x):=
 ⟨fun _ _ h=>.inl h,fun b o h=>bV (heap_alloc_old w x b (wf b o h)) o,fun _ ro h=>⟨ro,h,cw.refl ro⟩,.old fun b hb=>heap_alloc_old w x b hb⟩
theorem bi.Vi (h:bi E R w β s a) (x:Obj):bi E (R.Vi w.heap.size) (w.alloc x) β s a:=
 h.cq (Az h.g.wf x) rfl (fun b hb=>heap_alloc_old w x b (h.ee hb)) (fun b o hb hi=>by
  rcases hi with hi | hi
  ·exact hi
  ·have:=h.ee hb
   omega) (fun b o hi=>by
  rcases hi with hi | hi
  ·have:=h.g.wf b o hi
   simp
   omega
  ·simp
   omega)
theorem IU (h:bi E R w β s a) (x:Obj):Step R w β s.boxes (R.Vi w.heap.size) (w.alloc x) β s.boxes:=
 ⟨Az h.g.wf x,rfl,rfl,rfl,by simp,fun b hb _=>heap_alloc_old w x b hb,fun _ _ ho=>ho,fun b o hi hb _=>by
  rcases hi with hi | hi
  ·exact hi
  ·omega⟩
theorem nW (z:Array Value):∀ (n:Nat),(((Array.range (n * z.size)).map fun i=>z[i % z.size]!)).toList=(List.replicate n z.toList).flatten
 | 0=>by simp
 | n+1=>by
  have ih:=nW z n
  simp only [Array.toList_map,Array.toList_range] at ih ⊢
  rw [Nat.add_mul,Nat.one_mul,List.range_add,List.map_append,ih,List.replicate_succ',List.flatten_append]
  congr 1
  simp only [List.map_map,List.flatten_cons,List.flatten_nil,List.append_nil]
  apply List.ext_getElem?
  intro i
  by_cases hi:i < z.size
  ·simp only [List.getElem?_map,List.getElem?_range hi,Option.map_some,Function.comp_apply]
   rw [Nat.mul_comm n,Nat.mul_add_mod,Nat.mod_eq_of_lt hi]
   simp [hi]
  ·rw [List.getElem?_eq_none (by simp; omega),List.getElem?_eq_none (by simp; omega)]
theorem mf {z:AV} {c:Value} (hr:Rel R w z c) (hn:z.aV=true):∀ (n:Nat),aM R w (av (List.replicate n z)) (List.replicate n c.cells.toList).flatten∧∀ v∈(List.replicate n c.cells.toList).flatten,v.oneCell'=true
 | 0=>by simp [av]; exact .nil
 | n+1=>by
  obtain ⟨c1,c2⟩:=Rel.cells hr hn
  obtain ⟨h1,h2⟩:=mf hr hn n
  refine ⟨?_,fun v hv=>?_⟩
  ·simpa [List.replicate_succ,av] using c1.append h1
  ·simp only [List.replicate_succ,List.flatten_cons,List.mem_append] at hv
   rcases hv with hv | hv
   ·exact c2 v hv
   ·exact h2 v hv
theorem sQ:∀ {ps:List (Nat × AV)} {us:List Value},aM R w (ps.map (·.2)) us→aM R w ((zd ps).map (·.2)) us
 | [],_,h=>h
 | (_,_) :: _,_,.cons h t=>.cons h.gD (sQ t)
theorem sR:∀ (ps:List (Nat × AV)),(zd ps).map (·.1)=ps.map (·.1)
 | []=>rfl
 | (i,v) :: l=>by simp [zd,sR l]
theorem iD (h:bi E R w β s a) (t:TypeId) (len:Nat) (parts:Array (Nat × Operand)) (ho:o.op=.buildSlice t len parts) {v:AV} (hv:bX E s t len parts.toList=some v) :
  ∃ es esz us elem,v=.list .full esz es∧(execOp a.eval o).run E.P w=.ok (.value (.slice (some ⟨w.heap.size,0,none⟩) len len)) (w.alloc (.cells ⟨us⟩ elem))∧ji esz es∧es.length=len∧aM R w (av es) us∧(∀ x∈us,x.oneCell'=true)∧∃ i ag nT z,E.ti t=some i∧i.k=.sl elem esz ag nT z:=by
 unfold bX at hv
 split at hv
 ·rename_i i ps hi Iq
  split at hv
  ·rename_i elem esz ag nT z hk
   split at hv
   ·rename_i hc
    simp only [Bool.and_eq_true] at hc
    obtain ⟨⟨⟨⟨G7,V5⟩,V6⟩,hz4⟩,hz5⟩:=hc
    have G7:=Nat.eq_of_beq_eq_true G7
    have V5:=Nat.le_of_ble_eq_true V5
    have V6:=Nat.le_of_ble_eq_true V6
    split at hv
    ·rename_i es Ir
     cases hv
     obtain ⟨gG,u,e1,e2,e3,e4,e5,e6⟩:=b7 E hi
     rw [hk] at e5
     obtain ⟨ie,ue,rfl,f1,f2,f3,f4,f5,f6⟩:=dI e5
     obtain ⟨zc,qe,DB⟩:=cY f6
     have QW:=DB R w
     obtain ⟨c1,c2⟩:=Rel.cells QW hz4
     have oV:zc.cells.size=esz:=by rw [← G7,c1.length]; simp
     obtain ⟨p1,p2⟩:=u0 h Iq
     obtain ⟨z1,z2⟩:=mf QW hz4 len
     obtain ⟨g1,g2,g3⟩:=tM Ir (fP G7 hz4 hz5)
     obtain ⟨us,u1,u2,u3⟩:=nV (R:=R) (w:=w) _ (sQ p1) ((sR ps).trans p2) z1 z2 g1
     have Sc:(parts.map fun (x:Nat × Operand)=>(x.1,a.eval x.2)).toList=parts.toList.map fun x=>(x.1,a.eval x.2):=by simp
     have vM:((Array.range (len * esz)).map fun i=>zc.cells[i % zc.cells.size]!)=⟨(List.replicate len zc.cells.toList).flatten⟩:=by
      apply Array.ext'
      rw [← oV]
      exact nW zc.cells len
     have hlen:es.length=len:=by simpa using g3
     have bt:(Instr.buildSlice t len (parts.map fun (x:Nat × Operand)=>(x.1,a.eval x.2))).run E.P w=.ok (.slice (some ⟨w.heap.size,0,none⟩) len len) (w.alloc (.cells ⟨us⟩ elem)):=by
      have DW:¬ len * esz > 2 ^ 24:=by omega
      by_cases h0:len * esz=0
      ·have vN:len=0:=by
        rcases Nat.mul_eq_zero.1 h0 with h0 | h0 <;> omega
       subst vN
       have ZD:Instr.fill (fun i=>some (i * esz,esz)) #[] (parts.toList.map fun x=>(x.1,a.eval x.2))=some ⟨us⟩:=by simpa using u1
       simp only [Instr.buildSlice,Sem.run_bind,run_underlying e2,Result.andThen_ok,run_sizeOf w f1,f2]
       simp only [Nat.zero_mul,gt_iff_lt,Nat.not_lt_zero,if_false,if_true,Sem.run_bind,Sem.run_pure,Result.andThen_ok,Sc]
       have BT:∀ f:Nat→Value,Array.map f (Array.range 0)=#[]:=fun f=>by simp
       simp only [BT,ZD,newRow,Sem.run_bind,run_newObj,Result.andThen_ok,Sem.run_pure]
       rfl
      ·simp only [Instr.buildSlice,Sem.run_bind,run_underlying e2,Result.andThen_ok,run_sizeOf w f1,f2]
       rw [if_neg DW,if_neg h0]
       simp only [Sem.run_bind,Sem.run_pure,Result.andThen_ok,gH w f1 qe,Sc,vM,u1,newRow,run_newObj]
       rfl
     exact ⟨es,esz,us,elem,rfl,by simp only [execOp,ho,Sem.run_bind,bt,Result.andThen_ok,Sem.run_pure],g2,hlen,u2,u3,i,ag,nT,_,hi,hk⟩
    ·cases hv
   ·cases hv
  ·cases hv
 ·cases hv
theorem uB (h:bi E R w β s a) (t:TypeId) (len:Nat) (parts:Array (Nat × Operand)) (ho:o.op=.buildSlice t len parts) {cs:List AV} (hv:jT E s t len parts.toList=some cs) :
  ∃ esz us elem,(execOp a.eval o).run E.P w=.ok (.value (.slice (some ⟨w.heap.size,0,none⟩) len len)) (w.alloc (.cells ⟨us⟩ elem))∧aM R w cs us∧(∀ x∈us,x.oneCell'=true)∧∃ i ag nT z,E.ti t=some i∧i.k=.sl elem esz ag nT z:=by
 unfold jT at hv
 split at hv
 ·rename_i i ps hi Iq
  split at hv
  ·rename_i elem esz ag nT z hk
   split at hv
   ·rename_i hc
    simp only [Bool.and_eq_true] at hc
    obtain ⟨⟨⟨G7,V5⟩,V6⟩,hz4⟩:=hc
    have G7:=Nat.eq_of_beq_eq_true G7
    have V5:=Nat.le_of_ble_eq_true V5
    have V6:=Nat.le_of_ble_eq_true V6
    ·have g1:=hv
     obtain ⟨gG,u,e1,e2,e3,e4,e5,e6⟩:=b7 E hi
     rw [hk] at e5
     obtain ⟨ie,ue,rfl,f1,f2,f3,f4,f5,f6⟩:=dI e5
     obtain ⟨zc,qe,DB⟩:=cY f6
     have QW:=DB R w
     obtain ⟨c1,c2⟩:=Rel.cells QW hz4
     have oV:zc.cells.size=esz:=by rw [← G7,c1.length]; simp
     obtain ⟨p1,p2⟩:=u0 h Iq
     obtain ⟨z1,z2⟩:=mf QW hz4 len
     obtain ⟨us,u1,u2,u3⟩:=nV (R:=R) (w:=w) _ (sQ p1) ((sR ps).trans p2) z1 z2 g1
     have Sc:(parts.map fun (x:Nat × Operand)=>(x.1,a.eval x.2)).toList=parts.toList.map fun x=>(x.1,a.eval x.2):=by simp
     have vM:((Array.range (len * esz)).map fun i=>zc.cells[i % zc.cells.size]!)=⟨(List.replicate len zc.cells.toList).flatten⟩:=by
      apply Array.ext'
      rw [← oV]
      exact nW zc.cells len
     have bt:(Instr.buildSlice t len (parts.map fun (x:Nat × Operand)=>(x.1,a.eval x.2))).run E.P w=.ok (.slice (some ⟨w.heap.size,0,none⟩) len len) (w.alloc (.cells ⟨us⟩ elem)):=by
      have DW:¬ len * esz > 2 ^ 24:=by omega
      by_cases h0:len * esz=0
      ·have vN:len=0:=by
        rcases Nat.mul_eq_zero.1 h0 with h0 | h0 <;> omega
       subst vN
       have ZD:Instr.fill (fun i=>some (i * esz,esz)) #[] (parts.toList.map fun x=>(x.1,a.eval x.2))=some ⟨us⟩:=by simpa using u1
       simp only [Instr.buildSlice,Sem.run_bind,run_underlying e2,Result.andThen_ok,run_sizeOf w f1,f2]
       simp only [Nat.zero_mul,gt_iff_lt,Nat.not_lt_zero,if_false,if_true,Sem.run_bind,Sem.run_pure,Result.andThen_ok,Sc]
       have BT:∀ f:Nat→Value,Array.map f (Array.range 0)=#[]:=fun f=>by simp
       simp only [BT,ZD,newRow,Sem.run_bind,run_newObj,Result.andThen_ok,Sem.run_pure]
       rfl
      ·simp only [Instr.buildSlice,Sem.run_bind,run_underlying e2,Result.andThen_ok,run_sizeOf w f1,f2]
       rw [if_neg DW,if_neg h0]
       simp only [Sem.run_bind,Sem.run_pure,Result.andThen_ok,gH w f1 qe,Sc,vM,u1,newRow,run_newObj]
       rfl
     exact ⟨esz,us,elem,by simp only [execOp,ho,Sem.run_bind,bt,Result.andThen_ok,Sem.run_pure],u2,u3,i,ag,nT,_,hi,hk⟩
   ·cases hv
  ·cases hv
 ·cases hv
theorem uC (h:bi E R w β s a) (t:TypeId) (len:Nat) (parts:Array (Nat × Operand)) (ho:o.op=.buildSlice t len parts) {v:AV} (hv:bX E s t len parts.toList=some v) :
  bQ E R w β s a o (s.put o.dst (.v v)):=by
 obtain ⟨es,esz,us,elem,rfl,bt,g2,hlen,u2,u3,_⟩:=iD h t len parts ho hv
 have e:=Az (R:=R) (w:=w) h.g.wf (.cells ⟨us⟩ elem)
 refine ⟨_,.slice (some ⟨w.heap.size,0,none⟩) len len,_,R.Vi w.heap.size,β,bt,.inl rfl,(h.Vi (.cells ⟨us⟩ elem)).put o.dst ?_,by rw [a7]; exact IU h _⟩
 refine Rel.list (me g2 (dP.make (u2.mono e) u3 (fun j x hx=>?_) (fun j _=>.inr rfl))) hlen.symm (Nat.le_refl _) rfl
 rw [jl (heap_alloc_new w _)]
 simpa using hx
theorem sS (h:bi E R w β s a) (t:TypeId) (len:Nat) (parts:Array (Nat × Operand)) (ho:o.op=.buildSlice t len parts) {cs:List AV} (hv:jT E s t len parts.toList=some cs) {i:TI} (hi:E.ti t=some i) {el:TypeId} {esz eb:Nat} {ag:Bool} {z:Option AV} (hk:i.k=.sl el esz ag eb z) :
  bQ E R w β s a o ((s.dO (.row cs el)).put o.dst (.v (.jS s.G.length 0 esz len len))):=by
 obtain ⟨Sd,us,elem,bt,u2,u3,i',ZE,V7,z',qM,iK⟩:=uB h t len parts ho hv
 rw [hi] at qM
 cases qM
 rw [hk] at iK
 cases iK
 have e:=gQ (R:=R) (w:=w) h.g.wf (.cells ⟨us⟩ el) (.bU w.heap.size)
 have iy:gF (R.add (.bU w.heap.size)) (w.alloc (.cells ⟨us⟩ el)) (.row cs el) (.bU w.heap.size):=
  ⟨_,heap_alloc_new w _,u2.mono e,u3,fun o' hi=>by have:=h.g.wf _ _ hi; omega⟩
 exact ⟨_,_,_,R.add (.bU w.heap.size),β,bt,.inl rfl,(h.lG _ _ _ (by exact fun _ h=>h) iy).put o.dst (x:=.v (.jS s.G.length 0 esz len len)) (Rel.jS (gn h _) (Nat.le_refl _)),by rw [a7]; exact cN h _ _ (by exact fun _ h=>h)⟩
theorem sT (h:bi E R w β s a) (t:TypeId) (len:Nat) (parts:Array (Nat × Operand)) (ho:o.op=.buildSlice t len parts) {k:LK} {esz:Nat} {es:List AV} (hv:bX E s t len parts.toList=some (.list k esz es)) {i:TI} (hi:E.ti t=some i) {el:TypeId} {bE eb:Nat} {ag:Bool} {z:Option AV} (hk:i.k=.sl el bE ag eb z) :
  bQ E R w β s a o ((s.dO (.row (av es) el)).put o.dst (.v (.jS s.G.length 0 esz len len))):=by
 obtain ⟨es',Sd,us,elem,V8,bt,g2,hlen,u2,u3,i',ZE,V7,z',qM,iK⟩:=iD h t len parts ho hv
 cases V8
 rw [hi] at qM
 cases qM
 rw [hk] at iK
 cases iK
 have e:=gQ (R:=R) (w:=w) h.g.wf (.cells ⟨us⟩ el) (.bU w.heap.size)
 have iy:gF (R.add (.bU w.heap.size)) (w.alloc (.cells ⟨us⟩ el)) (.row (av es) el) (.bU w.heap.size):=
  ⟨_,heap_alloc_new w _,u2.mono e,u3,fun o' hi=>by have:=h.g.wf _ _ hi; omega⟩
 exact ⟨_,_,_,R.add (.bU w.heap.size),β,bt,.inl rfl,(h.lG _ _ _ (by exact fun _ h=>h) iy).put o.dst (x:=.v (.jS s.G.length 0 esz len len)) (Rel.jS (gn h _) (Nat.le_refl _)),by rw [a7]; exact cN h _ _ (by exact fun _ h=>h)⟩
end ops
end Go.Am
namespace Go.Am
open Go
section ops
variable {E:Env} {R:ai} {w:World} {β:Nat→Nat} {s:St} {a:Act} {o:Oper}
def Se (R:ai) (w:World) (β:Nat→Nat):Option SV→Option Value→Prop
 | none,none=>True
 | some x,some c=>pC R w β x c
 | _,_=>False
theorem zp {y y' n:Nat} {x:SV} {c:Value} (hx:pC R w β x c) (hb:An y x=some (true,n)) (hy:y≤y') (code:BoundsCode) :
  (Instr.sliceBound c y' code).run E.P w=.ok n w∧n≤y:=by
 unfold An at hb
 split at hb
 ·rename_i k m
  injection hb with hb
  injection hb with h1 h2
  subst h2
  obtain ⟨h0,h3⟩:=of_decide_eq_true h1
  have pE:Rel R w (.int k m) c:=hx
  cases pE
  exact ⟨run_sliceBound (P:=E.P) w k m y' code h0 (by omega),by omega⟩
 ·cases hb
theorem dV (isS:Bool) {len cap l h:Nat} (FA:len≤cap) {lo hi:Option SV} {lv hv:Option Value} (hl:Se R w β lo lv) (hh:Se R w β hi hv) (hb:DI len lo hi=some (true,l,h)) :
  (Instr.sliceBounds isS len cap lv hv none).run E.P w=.ok (l,h,cap) w∧l≤h∧h≤len:=by
 unfold DI at hb
 split at hb
 ·cases hb
 ·rename_i c1 h' ke
  split at hb
  ·cases hb
  ·rename_i c2 l' Sf
   injection hb with hb
   injection hb with hc hb
   injection hb with e1 e2
   subst e1; subst e2
   simp only [Bool.and_eq_true] at hc
   obtain ⟨rfl,rfl⟩:=hc
   have H:∃ _:True,(match hv with | some v=>Instr.sliceBound v cap (if isS=true then .sliceAcap else .sliceAlen) | none=>pure len).run E.P w=.ok h' w∧h'≤len:=by
    refine ⟨trivial,?_⟩
    cases hi with
    | none=>cases hv with
     | none=>simp at ke; subst ke; exact ⟨rfl,Nat.le_refl _⟩
     | some v=>exact hh.elim
    | some x=>cases hv with
     | none=>exact hh.elim
     | some v=>exact zp (E:=E) hh ke FA _
   have L:∃ _:True,(match lv with | some v=>Instr.sliceBound v h' .sliceB | none=>pure 0).run E.P w=.ok l' w∧l'≤h':=by
    refine ⟨trivial,?_⟩
    cases lo with
    | none=>cases lv with
     | none=>simp at Sf; subst Sf; exact ⟨rfl,Nat.zero_le _⟩
     | some v=>exact hl.elim
    | some x=>cases lv with
     | none=>exact hl.elim
     | some v=>exact zp (E:=E) hl Sf (Nat.le_refl _) _
   obtain ⟨_,H1,H2⟩:=H
   obtain ⟨_,L1,L2⟩:=L
   refine ⟨?_,L2,H2⟩
   cases hv <;> cases lv <;> simp_all [Instr.sliceBounds]
theorem BU (h:bi E R w β s a) {x:Option Operand} {y:Option SV} (hx:mI E s.af x=some y):Se R w β y (x.map a.eval):=by
 cases x with
 | none=>simp [mI] at hx; subst hx; trivial
 | some x=>simp [mI] at hx; subst hx; exact aT h x
theorem nX {α:Type} {l:List α} {lo hi:Nat} (h:hi≤l.length):(dB lo hi l).length=hi - lo:=by
 simp [dB]
 omega
theorem yF (l:List UInt8) (lo hi:Nat):(⟨⟨l⟩⟩:ByteArray).extract lo hi=⟨⟨dB lo hi l⟩⟩:=by
 apply ByteArray.ext
 rw [ByteArray.data_extract]
 apply Array.ext'
 simp [List.extract_eq_take_drop,dB,List.drop_take]
theorem FB {ag:Bool} {b sz:Nat} (eO:(ag || Nat.beq sz 1)=true):∀ (n:Nat) {cs:List AV} {o:Nat},dP R w b o cs→n * sz≤cs.length→allFit (DJ ag) (gW ag sz n cs)=true→gk R w b o sz (gW ag sz n cs)
 | 0,_,_,_,_,_=>.nil
 | n+1,cs,o,hc,hl,hf=>by
  simp only [gW,allFit,Bool.and_eq_true] at hf
  obtain ⟨vO,YB⟩:=hf
  unfold DJ at vO
  simp only [Bool.and_eq_true] at vO
  obtain ⟨⟨h1,h2⟩,h3⟩:=vO
  have hle:sz≤cs.length:=by rw [Nat.succ_mul] at hl; omega
  have lI:(VT ag (cs.take sz)).cells=cs.take sz:=by
   cases ag with
   | true=>rfl
   | false=>
    have QU:sz=1:=by simpa using eO
    subst QU
    match cs,hle with
    | a :: cs,_=>
     show AV.cells a=[a]
     have ho:a.one=true:=by simpa [VT,eu] using h2
     cases a <;> first | rfl | simp [AV.one] at ho
  obtain ⟨vs,k1,k2,k3,k4⟩:=hc.get
  have hA:dP R w b o (cs.take sz):=dP.make (k1.take sz) (fun v hv=>k2 v (List.mem_of_mem_take hv)) (fun j v hv=>k3 j v (by
   rw [List.getElem?_take] at hv
   split at hv
   ·exact hv
   ·cases hv)) (fun j hj=>k4 j (by rw [List.length_take] at hj; omega))
  exact .cons (by rw [lI,List.length_take,Nat.min_eq_left hle]) h1 h3 (by rw [lI]; exact hA) (FB eO n (hc.drop sz) (by rw [List.length_drop]; rw [Nat.succ_mul] at hl; omega) YB)
theorem pL (ag:Bool) (sz:Nat):∀ (n:Nat) (cs:List AV),(gW ag sz n cs).length=n
 | 0,_=>rfl
 | n+1,cs=>by simp [gW,pL ag sz n]
theorem DZ (h:bi E R w β s a) (t:TypeId) (x:Operand) (lo hi:Option Operand) (ho:o.op=.slice t x lo hi none) {l h':Option SV} (hl:mI E s.af lo=some l) (hh:mI E s.af hi=some h') {v:AV} (hv:Ao E t (bw E s.af x) l h' none=some (true,v)) :
  bQ E R w β s a o (s.put o.dst (.v v)):=by
 have rx:=aT h x
 have rl:=BU h hl
 have rh:=BU h hh
 unfold Ao at hv
 split at hv
 ·rename_i i qM hmx
  obtain ⟨gG,u,e1,e2,e3,e4,e5,e6⟩:=b7 E qM
  split at hv
  ·-- a string
   rename_i bs hk hx
   rw [hx] at rx
   have dK:Rel R w (.str bs) (a.eval x):=rx
   generalize fy:a.eval x=xv at dK
   cases dK
   rw [hk] at e5
   have:=kw e5
   subst this
   split at hv
   ·rename_i c p q hb
    injection hv with hv
    injection hv with h1 h2
    subst h1; subst h2
    obtain ⟨k1,k2,k3⟩:=dV (E:=E) false (Nat.le_refl _) rl rh hb
    refine ar h (c:=.string ⟨⟨dB p q bs⟩⟩) ?_ (Rel.str _)
    rw [← yF]
    simp only [execOp,ho,Instr.sliceAt,Sem.run_bind,run_underlying e2,Result.andThen_ok,Instr.slice,fy,Option.map_none,Option.isSome_none,Bool.false_eq_true,if_false,size_bytes,k1,Sem.run_pure]
   ·cases hv
  ·-- a list
   rename_i elem esz ag nT z k sz es hk hx
   rw [hx] at rx
   rw [hk] at e5
   obtain ⟨ie,ue,rfl,f1,f2,f3,f4,f5,f6⟩:=dI e5
   split at hv
   ·rename_i eO
    split at hv
    ·rename_i c p q hb
     injection hv with hv
     injection hv with h1 h2
     subst h1; subst h2
     have dK:Rel R w (.list k sz es) (a.eval x):=rx
     generalize fy:a.eval x=xv at dK
     cases dK with
     | jE=>
      obtain ⟨k1,k2,k3⟩:=dV (E:=E) true (Nat.le_refl _) rl rh hb
      simp only [List.length_nil,Nat.le_zero_eq] at k3
      subst k3
      have:p=0:=by omega
      subst this
      refine ar h (c:=.slice none 0 0) ?_ ?_
      ·simp only [execOp,ho,Instr.sliceAt,Sem.run_bind,run_underlying e2,Result.andThen_ok,Instr.slice,fy,Option.map_none]
       simp only [List.length_nil] at k1
       simp [k1,run_sizeOf w f1]
      ·exact Rel.jE
     | iR=>
      obtain ⟨k1,k2,k3⟩:=dV (E:=E) true (Nat.le_refl _) rl rh hb
      simp only [List.length_nil,Nat.le_zero_eq] at k3
      subst k3
      have:p=0:=by omega
      subst this
      refine ar h (c:=.slice none 0 0) ?_ ?_
      ·simp only [execOp,ho,Instr.sliceAt,Sem.run_bind,run_underlying e2,Result.andThen_ok,Instr.slice,fy,Option.map_none]
       simp only [List.length_nil] at k1
       simp [k1,run_sizeOf w f1]
      ·exact Rel.iR
     | @mL _ ad=>
      obtain ⟨k1,k2,k3⟩:=dV (E:=E) true (Nat.le_refl _) rl rh hb
      simp only [List.length_nil,Nat.le_zero_eq] at k3
      subst k3
      have:p=0:=by omega
      subst this
      refine ar h (c:=.slice (some ad) 0 0) ?_ ?_
      ·simp only [execOp,ho,Instr.sliceAt,Sem.run_bind,run_underlying e2,Result.andThen_ok,Instr.slice,fy,Option.map_none]
       simp only [List.length_nil] at k1
       simp [k1,run_sizeOf w f1]
      ·exact Rel.mL
     | lZ h0 Vj=>
      obtain ⟨k1,k2,k3⟩:=dV (E:=E) true (Nat.le_refl _) rl rh hb
      simp only [List.length_nil,Nat.le_zero_eq] at k3
      subst k3
      have:p=0:=by omega
      subst this
      refine ar h (c:=.slice none 0 0) ?_ ?_
      ·simp only [execOp,ho,Instr.sliceAt,Sem.run_bind,run_underlying e2,Result.andThen_ok,Instr.slice,fy,Option.map_none]
       simp only [List.length_nil] at k1
       simp [k1,run_sizeOf w f1]
      ·exact Rel.iR
     | lE h0 Vj=>
      obtain ⟨k1,k2,k3⟩:=dV (E:=E) true (Nat.le_refl _) rl rh hb
      simp only [List.length_nil,Nat.le_zero_eq] at k3
      subst k3
      have:p=0:=by omega
      subst this
      refine ar h (c:=.slice none 0 0) ?_ ?_
      ·simp only [execOp,ho,Instr.sliceAt,Sem.run_bind,run_underlying e2,Result.andThen_ok,Instr.slice,fy,Option.map_none]
       simp only [List.length_nil] at k1
       simp [k1,run_sizeOf w f1]
      ·exact Rel.iR
     | @list _ _ _ b o' len cap hr hlen gX IP=>
      subst hlen
      obtain ⟨k1,k2,k3⟩:=dV (E:=E) true gX rl rh hb
      have V9:es≠[]→sz=esz:=fun cm=>by
       simp only [Bool.or_eq_true] at eO
       rcases eO with hc | hc
       ·exact Nat.eq_of_beq_eq_true hc
       ·simp at hc; exact absurd hc cm
      have bt:(execOp a.eval o).run E.P w=.ok (.value (.slice (if cap=p then some ⟨b,o',none⟩ else some ⟨b,o'+p * esz,none⟩) (q - p) (cap - p))) w:=by
       simp only [execOp,ho,Instr.sliceAt,Sem.run_bind,run_underlying e2,Result.andThen_ok,Instr.slice,fy,Option.map_none,k1,run_sizeOf w f1,f2,Sem.run_pure,Option.map_some,cA]
      have tN:∀ b2 o2,Aq R (match k with | .nil=>LK.nil | .full=>(match h' with | none=>LK.full | some _=>LK.jP) | _=>LK.jP) b2 o2 (q - p) (cap - p):=by
       intro b2 o2
       cases k with
       | nil=>exact IP.elim
       | jP=>trivial
       | own id=>trivial
       | bf id j=>trivial
       | full=>
        have hc:cap=es.length:=IP
        cases h' with
        | some _=>trivial
        | none=>
         have hq:q=es.length:=by
          unfold DI at hb
          simp only at hb
          split at hb
          ·cases hb
          ·injection hb with hb
           injection hb with _ hb
           injection hb with _ hb
           exact hb.symm
         show cap - p=q - p
         omega
      by_cases Vk:cap=p
      ·refine ar h (c:=.slice (some ⟨b,o',none⟩) (q - p) (cap - p)) (by rw [bt,if_pos Vk]) ?_
       have he:dB p q es=[]:=List.eq_nil_of_length_eq_zero (by rw [nX k3]; omega)
       exact Rel.list (by rw [he]; exact .nil) (by rw [nX k3]) (by omega) (tN _ _)
      ·refine ar h (c:=.slice (some ⟨b,o'+p * esz,none⟩) (q - p) (cap - p)) (by rw [bt,if_neg Vk]) ?_
       refine Rel.list ?_ (by rw [nX k3]) (by omega) (tN _ _)
       by_cases cm:es=[]
       ·subst cm
        simp [dB]
        exact .nil
       ·have:=V9 cm
        subst this
        exact zo p (sP q hr)
    ·cases hv
   ·cases hv
  ·-- a heap slice
   rename_i elem esz ag nT z id off sz len cap hk hx
   rw [hx] at rx
   rw [hk] at e5
   obtain ⟨ie,ue,rfl,f1,f2,f3,f4,f5,f6⟩:=dI e5
   split at hv
   ·rename_i eO
    have eO:=Nat.eq_of_beq_eq_true eO
    subst eO
    split at hv
    ·rename_i c p q hb
     injection hv with hv
     injection hv with h1 h2
     subst h1; subst h2
     have dK:Rel R w (.jS id off sz len cap) (a.eval x):=rx
     generalize fy:a.eval x=xv at dK
     cases dK with
     | @jS _ _ _ _ _ b ZF gX=>
      obtain ⟨k1,k2,k3⟩:=dV (E:=E) true gX rl rh hb
      refine ar h (c:=.slice (some ⟨b,bif Nat.beq cap p then off else off+p * sz,none⟩) (q - p) (cap - p)) ?_ (Rel.jS ZF (by omega))
      have hb:(bif Nat.beq cap p then off else off+p * sz)=if cap=p then off else off+p * sz:=by
       by_cases e:cap=p
       ·rw [if_pos e,e,show Nat.beq p p=true from Nat.beq_refl p]; rfl
       ·rw [if_neg e]
        cases hq:Nat.beq cap p with
        | true=>exact absurd (Nat.eq_of_beq_eq_true hq) e
        | false=>rfl
      rw [hb]
      simp only [execOp,ho,Instr.sliceAt,Sem.run_bind,run_underlying e2,Result.andThen_ok,Instr.slice,fy,Option.map_none,k1,run_sizeOf w f1,f2,Sem.run_pure,Option.map_some,cA]
      split <;> rfl
    ·cases hv
   ·cases hv
  ·-- a slice that grows
   rename_i elem esz ag nT z id f' off sz len hk hx
   rw [hx] at rx
   rw [hk] at e5
   obtain ⟨ie,ue,rfl,f1,f2,f3,f4,f5,f6⟩:=dI e5
   split at hv
   ·rename_i eO
    have eO:=Nat.eq_of_beq_eq_true eO
    subst eO
    split at hv
    ·rename_i c p q hb
     injection hv with hv
     injection hv with h1 h2
     subst h1; subst h2
     have dK:Rel R w (.dX id f' off sz len) (a.eval x):=rx
     generalize fy:a.eval x=xv at dK
     cases dK with
     | iM h0 Vj=>
      obtain ⟨k1,k2,k3⟩:=dV (E:=E) true (Nat.le_refl _) rl rh hb
      simp only [Nat.le_zero_eq] at k3
      subst k3
      have:p=0:=by omega
      subst this
      refine ar h (c:=.slice none 0 0) ?_ ?_
      ·simp only [execOp,ho,Instr.sliceAt,Sem.run_bind,run_underlying e2,Result.andThen_ok,Instr.slice,fy,Option.map_none]
       simp [k1,run_sizeOf w f1]
      ·exact Rel.iM h0 Vj
     | @dX _ _ _ _ _ cap b o' ro bH dE gX=>
      obtain ⟨k1,k2,k3⟩:=dV (E:=E) true gX rl rh hb
      have bt:(execOp a.eval o).run E.P w=.ok (.value (.slice (if cap=p then some ⟨b,o',none⟩ else some ⟨b,o'+p * sz,none⟩) (q - p) (cap - p))) w:=by
       simp only [execOp,ho,Instr.sliceAt,Sem.run_bind,run_underlying e2,Result.andThen_ok,Instr.slice,fy,Option.map_none,k1,run_sizeOf w f1,f2,Sem.run_pure,Option.map_some,cA]
      have Sg:∀ o2,(o2=o'+p * sz∨cap=p)→GV b o2 f' (off+p) sz (cap - p) ro:=fun o2 h2=>by
       cases ro with
       | none=>trivial
       | bz=>exact dE.elim
       | bU _=>exact dE.elim
       | bf _=>exact dE.elim
       | tok f1 b1 c1=>
        refine ⟨dE.1,fun e=>?_⟩
        obtain ⟨q1,q2,q3⟩:=dE.2 e
        refine ⟨q1,by omega,?_⟩
        rcases h2 with h2 | h2
        ·rcases q3 with q3 | q3
         ·exact .inl (by rw [h2,q3,Nat.add_mul])
         ·exact .inr (by omega)
        ·exact .inr (by omega)
      by_cases Vk:cap=p
      ·exact ar h (c:=.slice (some ⟨b,o',none⟩) (q - p) (cap - p)) (by rw [bt,if_pos Vk]) (Rel.dX bH (Sg _ (.inr Vk)) (by omega))
      ·exact ar h (c:=.slice (some ⟨b,o'+p * sz,none⟩) (q - p) (cap - p)) (by rw [bt,if_neg Vk]) (Rel.dX bH (Sg _ (.inl rfl)) (by omega))
    ·cases hv
   ·cases hv
  ·-- an array that never changes again
   rename_i len esz ag cs hk hx
   rw [hx] at rx
   rw [hk] at e5
   obtain ⟨e,ie,ue,rfl,f1,f2,f3,f4⟩:=nS e5
   split at hv
   ·split at hv
    ·rename_i cC
     simp only [Bool.and_eq_true] at cC
     obtain ⟨⟨⟨c1,c2⟩,c3⟩,c4⟩:=cC
     injection hv with hv
     injection hv with _ h2
     subst h2
     have dK:Rel R w (.ep cs) (a.eval x):=rx
     generalize fy:a.eval x=xv at dK
     cases dK with
     | @ep _ b o' hr=>
     obtain ⟨k1,_,_⟩:=dV (E:=E) (w:=w) (R:=R) (β:=β) (l:=0) (h:=len) false (Nat.le_refl len) rl rh rfl
     refine ar h (c:=.slice (some ⟨b,o',none⟩) len len) ?_ (Rel.list (FB c3 len hr (Nat.le_of_ble_eq_true c1) c4) (pL _ _ _ _).symm (Nat.le_refl _) rfl)
     simp only [execOp,ho,Instr.sliceAt,Sem.run_bind,run_underlying e2,Result.andThen_ok,fy,Instr.sureAddr,Option.map_none,k1,run_sizeOf w f1,f2,Sem.run_pure]
     by_cases vN:len=0
     ·subst vN
      simp
     ·simp [vN,cA]
    ·cases hv
   ·cases hv
  ·cases hv
 ·cases hv
theorem AA (h:bi E R w β s a) (t:TypeId) (ho:o.op=.makeMap t none):bQ E R w β s a o ((s.dO (.map [])).put o.dst (.v (.map s.G.length))):=by
 have iy:gF (R.add (.bU w.heap.size)) (w.alloc (.map #[] 0)) (.map []) (.bU w.heap.size):=⟨#[],0,heap_alloc_new w _,trivial,rfl,fun i e he=>by simp at he⟩
 refine ⟨_,.map (some w.heap.size),w.alloc (.map #[] 0),R.add (.bU w.heap.size),β,?_,.inl rfl,(h.lG (.map #[] 0) (.map []) (.bU w.heap.size) (by exact fun _ h=>h) iy).put o.dst (x:=.v (.map s.G.length)) (Rel.map (gn h _)),by rw [a7]; exact cN h _ _ (by exact fun _ h=>h)⟩
 simp only [execOp,ho,Instr.makeMap,Option.map_none,Sem.run_bind,run_newObj,Result.andThen_ok,Sem.run_pure]
 rfl
theorem pM (h:bi E R w β s a) (t:TypeId) (x y:Operand) (ho:o.op=.makeSlice t x y) {i:TI} (hi:E.ti t=some i) {k k':IntKind} {n m:Int} (hx:bw E s.af x=.v (.int k n)) (hy:bw E s.af y=.v (.int k' m))
  {elem esz nT:Nat} {ag:Bool} {z:AV} (hk:i.k=.sl elem esz ag nT (some z)) (hz:z.cells.length=esz) (G7:1≤esz) (qN:z.aV=true) (hc:0≤n∧n≤m∧m≤140737488355328∧m * nT≤140737488355328) :
  ∃ us,aM R w (av (List.replicate m.toNat z)) us∧(∀ v∈us,v.oneCell'=true)∧(execOp a.eval o).run E.P w=.ok (.value (.slice (some ⟨w.heap.size,0,none⟩) n.toNat m.toNat)) (w.alloc (.cells ⟨us⟩ elem)):=by
 have rx:=aT h x
 have ry:=aT h y
 rw [hx] at rx
 rw [hy] at ry
 have dK:Rel R w (.int k n) (a.eval x):=rx
 have pK:Rel R w (.int k' m) (a.eval y):=ry
 generalize fy:a.eval x=xv at dK
 generalize V3:a.eval y=yv at pK
 cases dK
 cases pK
 obtain ⟨c1,c2,c3,c4⟩:=hc
 obtain ⟨gG,u,e1,e2,e3,e4,e5,e6⟩:=b7 E hi
 rw [hk] at e5
 obtain ⟨ie,ue,rfl,f1,f2,f3,f4,f5,f6⟩:=dI e5
 obtain ⟨zc,qe,DB⟩:=cY f6
 have QW:=DB R w
 obtain ⟨d1,d2⟩:=Rel.cells QW qN
 have oV:zc.cells.size=esz:=by rw [← hz,d1.length]; simp
 obtain ⟨z1,z2⟩:=mf QW qN m.toNat
 have vM:((Array.range (m.toNat * esz)).map fun i=>zc.cells[i % zc.cells.size]!)=⟨(List.replicate m.toNat zc.cells.toList).flatten⟩:=by
  apply Array.ext'
  rw [← oV]
  exact nW zc.cells m.toNat
 have wn:IntKind.i64.wrap n=n:=IntWalk.i64_in n (by omega)
 have wm:IntKind.i64.wrap m=m:=IntWalk.i64_in m (by omega)
 have bt:(Instr.makeSlice t (.int k n) (.int k' m)).run E.P w=.ok (.slice (some ⟨w.heap.size,0,none⟩) n.toNat m.toNat) (w.alloc (.cells ⟨(List.replicate m.toNat zc.cells.toList).flatten⟩ elem)):=by
  have hby:(ie.bytes:Int) * m≤281474976710656:=by rw [f3,Int.mul_comm]; omega
  have Wa:¬ 281474976710656 < (ie.bytes:Int) * m:=by omega
  have h1:¬ m < 0:=by omega
  have h2:¬ n < 0:=by omega
  have h3:¬ m < n:=by omega
  have Sh:(typeInfo elem).run E.P w=.ok ie w:=by simp [typeInfo,f1]
  by_cases h0:m.toNat * esz=0
  ·have hm0:m.toNat=0:=by
    rcases Nat.mul_eq_zero.1 h0 with h0 | h0 <;> omega
   have BT:∀ f:Nat→Value,Array.map f (Array.range 0)=#[]:=fun f=>by simp
   simp [Instr.makeSlice,run_underlying e2,asInt,asIntOf,Sh,wn,wm,h1,h2,h3,Wa,run_sizeOf w f1,f2,hm0,newRow]
   rw [BT]
  ·simp [Instr.makeSlice,run_underlying e2,asInt,asIntOf,Sh,wn,wm,h1,h2,h3,Wa,run_sizeOf w f1,f2,h0,gH w f1 qe,newRow]
   rw [← vM]
 refine ⟨_,z1,z2,?_⟩
 simp only [execOp,ho,fy,V3,Sem.run_bind,bt,Result.andThen_ok,Sem.run_pure]
theorem vP (h:bi E R w β s a) (t:TypeId) (x y:Operand) (ho:o.op=.makeSlice t x y) {i:TI} (hi:E.ti t=some i) {k k':IntKind} {n m:Int} (hx:bw E s.af x=.v (.int k n)) (hy:bw E s.af y=.v (.int k' m))
  {elem esz nT:Nat} {ag:Bool} {z:AV} (hk:i.k=.sl elem esz ag nT (some z)) (hz:z.cells.length=esz) (G7:1≤esz) (qN:z.aV=true) (hc:0≤n∧n≤m∧m≤140737488355328∧m * nT≤140737488355328) :
  bQ E R w β s a o ((s.dO (.row (av (List.replicate m.toNat z)) elem)).put o.dst (.v (.jS s.G.length 0 esz n.toNat m.toNat))):=by
 obtain ⟨us,z1,z2,bt⟩:=pM h t x y ho hi hx hy hk hz G7 qN hc
 have e:=gQ (R:=R) (w:=w) h.g.wf (.cells ⟨us⟩ elem) (.bU w.heap.size)
 have iy:gF (R.add (.bU w.heap.size)) (w.alloc (.cells ⟨us⟩ elem)) (.row (av (List.replicate m.toNat z)) elem) (.bU w.heap.size):=
  ⟨_,heap_alloc_new w _,z1.mono e,z2,fun o' hi=>by have:=h.g.wf _ _ hi; omega⟩
 exact ⟨_,.slice (some ⟨w.heap.size,0,none⟩) n.toNat m.toNat,_,R.add (.bU w.heap.size),β,bt,.inl rfl,(h.lG _ _ (.bU w.heap.size) (by exact fun _ h=>h) iy).put o.dst (x:=.v (.jS s.G.length 0 esz n.toNat m.toNat)) (Rel.jS (gn h _) (by omega)),by rw [a7]; exact cN h _ _ (by exact fun _ h=>h)⟩
end ops
end Go.Am
namespace Go.Am
open Go
section ops
variable {E:Env} {R:ai} {w:World} {β:Nat→Nat} {s:St} {a:Act} {o:Oper}
theorem ky (x:Array Operand) (f:Operand→Value):x.map f=⟨x.toList.map f⟩:=Array.ext' (by simp)
theorem eC {b:Builtin} {args:Array Operand} {tys:Array TypeId} (ho:o.op=.call { callee:=.builtin b,args:=args,argTypes:=tys }) (vs:List Value) (hv:args.toList.map a.eval=vs) :
  (execOp a.eval o).run E.P w=(builtin b tys o.type (args.map fun | .const _=>true | _=>false) ⟨vs⟩).run E.P w:=by
 simp only [execOp,ho,resolve,Sem.run_bind,Sem.run_pure,Result.andThen_ok,invoke,ky args a.eval,hv]
 rfl
theorem dp.length:∀ {l:List (AV × AV)} {es:List MapEntry},dp R w l es→l.length=es.length
 | [],[],_=>rfl
 | _ :: _,_ :: _,h=>by simp [dp.length h.2.2]
 | [],_ :: _,h=>h.elim
 | _ :: _,[],h=>h.elim
theorem IV (h:bi E R w β s a) {args:Array Operand} {tys:List TypeId} (ho:o.op=.call { callee:=.builtin .len,args:=args,argTypes:=⟨tys⟩ }) {l:List AV} (hl:lS E s.af args.toList=some l) {s':St} (hs:bI E s o.dst .len l tys=some (true,s')) :
  bQ E R w β s a o s':=by
 have hr:=gq h hl
 generalize hv:args.toList.map a.eval=vs at hr
 have hx:=eC (E:=E) (w:=w) ho vs hv
 unfold bI at hs
 split at hs <;> first | (rename_i h1; cases h1; done) | skip
 ·rename_i x
  cases hr with
  | cons h0 h1=>
  cases h1
  split at hs
  ·rename_i t tl
   split at hs
   ·rename_i i hi
    obtain ⟨gG,u,e1,e2,e3,e4,e5,e6⟩:=b7 E hi
    split at hs
    ·rename_i bs hk
     cases hs
     cases h0
     rw [hk] at e5
     have:=kw e5
     subst this
     refine ar h (c:=.int .i64 bs.length) ?_ (Rel.int _ _)
     rw [hx]
     simp [builtin,Builtin.len_,run_underlying e2,goInt,size_bytes]
    ·rename_i kk sz es hk
     cases hs
     rw [hk] at e5
     obtain ⟨ie,ue,rfl,_⟩:=dI e5
     refine ar h (c:=.int .i64 es.length) ?_ (Rel.int _ _)
     rw [hx]
     cases h0 with
     | jE=>simp [builtin,Builtin.len_,run_underlying e2,goInt]
     | iR=>simp [builtin,Builtin.len_,run_underlying e2,goInt]
     | mL=>simp [builtin,Builtin.len_,run_underlying e2,goInt]
     | lZ=>simp [builtin,Builtin.len_,run_underlying e2,goInt]
     | lE=>simp [builtin,Builtin.len_,run_underlying e2,goInt]
     | list _ hlen _ _=>subst hlen; simp [builtin,Builtin.len_,run_underlying e2,goInt]
    ·rename_i id off sz len cap hk
     cases hs
     rw [hk] at e5
     obtain ⟨ie,ue,rfl,_⟩:=dI e5
     refine ar h (c:=.int .i64 len) ?_ (Rel.int _ _)
     rw [hx]
     cases h0
     simp [builtin,Builtin.len_,run_underlying e2,goInt]
    ·rename_i id f' off sz len hk
     cases hs
     rw [hk] at e5
     obtain ⟨ie,ue,rfl,_⟩:=dI e5
     refine ar h (c:=.int .i64 len) ?_ (Rel.int _ _)
     rw [hx]
     cases h0 <;> simp [builtin,Builtin.len_,run_underlying e2,goInt]
    ·rename_i n esz ag hk
     cases hs
     rw [hk] at e5
     obtain ⟨e,ie,ue,rfl,_⟩:=nS e5
     refine ar h (c:=.int .i64 n) ?_ (Rel.int _ _)
     rw [hx]
     simp [builtin,Builtin.len_,run_underlying e2,goInt]
    ·rename_i hk
     cases hs
     rw [hk] at e5
     obtain ⟨rfl,_⟩:=mb e5
     refine ar h (c:=.int .i64 0) ?_ (Rel.int _ _)
     rw [hx]
     cases h0
     simp [builtin,Builtin.len_,run_underlying e2,goInt]
    ·rename_i id hk
     split at hs
     ·rename_i es hg
      cases hs
      rw [hk] at e5
      obtain ⟨rfl,_⟩:=mb e5
      cases h0 with
      | @map _ b hb=>
      obtain ⟨az,clock,g1,g2,g3⟩:=h.g.obj id _ _ hg hb
      refine ar h (c:=.int .i64 es.length) ?_ (Rel.int _ _)
      rw [hx]
      have iy:(getObj b).run E.P w=.ok (.map az clock) w:=by simp [getObj,Sem.run,g1]
      simp [builtin,Builtin.len_,run_underlying e2,goInt,iy,g2.length]
     ·cases hs
    ·cases hs
   ·cases hs
  ·cases hs
 ·cases hs
theorem FC {b:Bool}:∀ {l:List AV} {x v:AV} {c:Value} {cs:List Value},Rel R w x c→aM R w l cs→GQ x l=some v→∃ c',(cs.foldlM Builtin.max2 c).run E.P w=.ok c' w∧Rel R w v c'
 | [],x,v,c,cs,hr,hl,hv=>by
  cases hl
  simp only [GQ] at hv
  cases hv
  exact ⟨c,rfl,hr⟩
 | y :: l,x,v,c,cs,hr,hl,hv=>by
  cases hl with
  | cons hy hl=>
  unfold GQ at hv
  split at hv
  ·rename_i ke; cases ke
  ·rename_i k n k' m l' ke
   cases ke
   split at hv
   ·rename_i hk
    subst hk
    cases hr
    cases hy
    obtain ⟨c',h1,h2⟩:=FC (b:=b) (Rel.int k (if m > n then m else n)) hl hv
    refine ⟨c',?_,h2⟩
    simp only [List.foldlM_cons,Sem.run_bind,Builtin.max2,Sem.run_pure,Result.andThen_ok]
    exact h1
   ·cases hv
  ·cases hv
theorem AB {b:Bool}:∀ {l:List AV} {x v:AV} {c:Value} {cs:List Value},Rel R w x c→aM R w l cs→DK x l=some v→∃ c',(cs.foldlM Builtin.min2 c).run E.P w=.ok c' w∧Rel R w v c'
 | [],x,v,c,cs,hr,hl,hv=>by
  cases hl
  simp only [DK] at hv
  cases hv
  exact ⟨c,rfl,hr⟩
 | y :: l,x,v,c,cs,hr,hl,hv=>by
  cases hl with
  | cons hy hl=>
  unfold DK at hv
  split at hv
  ·rename_i ke; cases ke
  ·rename_i k n k' m l' ke
   cases ke
   split at hv
   ·rename_i hk
    subst hk
    cases hr
    cases hy
    obtain ⟨c',h1,h2⟩:=AB (b:=b) (Rel.int k (if m < n then m else n)) hl hv
    refine ⟨c',?_,h2⟩
    simp only [List.foldlM_cons,Sem.run_bind,Builtin.min2,Sem.run_pure,Result.andThen_ok]
    exact h1
   ·cases hv
  ·rename_i n m l' ke
   cases ke
   cases hr
   cases hy
   obtain ⟨c',h1,h2⟩:=AB (b:=b) (Rel.str (bif Op.bytesLess n m || n == m then n else m)) hl hv
   refine ⟨c',?_,h2⟩
   have e:(Builtin.min2 (.string ⟨⟨n⟩⟩) (.string ⟨⟨m⟩⟩)).run E.P w=.ok (.string ⟨⟨bif Op.bytesLess n m || n == m then n else m⟩⟩) w:=by
    simp only [Builtin.min2,Op.stringOp,Sem.run_bind,Sem.run_pure,Result.andThen_ok]
    show Result.andThen ((asBool _).run E.P w) _=_
    cases hb:(Op.bytesLess n m || n == m) <;> simp_all [asBool]
   simp only [List.foldlM_cons,Sem.run_bind,e,Result.andThen_ok]
   exact h1
  ·cases hv
theorem IW (h:bi E R w β s a) {args:Array Operand} {tys:Array TypeId} (ho:o.op=.call { callee:=.builtin .max,args:=args,argTypes:=tys }) {x v:AV} {l:List AV} (hl:lS E s.af args.toList=some (x :: l)) (hm:GQ x l=some v) :
  bQ E R w β s a o (s.put o.dst (.v v)):=by
 have hr:=gq h hl
 generalize hv:args.toList.map a.eval=vs at hr
 have hx:=eC (E:=E) (w:=w) ho vs hv
 cases hr with
 | cons h0 h1=>
 obtain ⟨c',k1,k2⟩:=FC (E:=E) (b:=true) h0 h1 hm
 refine ar h (c:=c') ?_ k2
 rw [hx]
 simp [builtin,Builtin.max_,k1]
theorem IX (h:bi E R w β s a) {args:Array Operand} {tys:Array TypeId} (ho:o.op=.call { callee:=.builtin .min,args:=args,argTypes:=tys }) {x v:AV} {l:List AV} (hl:lS E s.af args.toList=some (x :: l)) (hm:DK x l=some v) :
  bQ E R w β s a o (s.put o.dst (.v v)):=by
 have hr:=gq h hl
 generalize hv:args.toList.map a.eval=vs at hr
 have hx:=eC (E:=E) (w:=w) ho vs hv
 cases hr with
 | cons h0 h1=>
 obtain ⟨c',k1,k2⟩:=AB (E:=E) (b:=true) h0 h1 hm
 refine ar h (c:=c') ?_ k2
 rw [hx]
 simp [builtin,Builtin.min_,k1]
end ops
end Go.Am
namespace Go.Am
open Go
section ops
variable {E:Env} {R:ai} {w:World} {β:Nat→Nat} {s:St} {a:Act} {o:Oper}
def ai.upto (R:ai) (g n:Nat) (obj:List RO):ai:=⟨fun b o=>R.I b o∨(b=g∧o < n),obj⟩
theorem aI {l:List RO} {id i:Nat} {x r y:RO} (ads:nth l id=some y) (h:nth (aD l id x) i=some r):(i=id∧r=x)∨(i≠id∧nth l i=some r):=by
 rcases da h with ⟨rfl,rfl,_⟩ | ⟨cm,h⟩
 ·exact .inl ⟨rfl,rfl⟩
 ·exact .inr ⟨Ne.symm cm,h⟩
theorem D0 (wf:∀ b o,R.I b o→b < w.heap.size) (x:Obj) (n:Nat) (ro:RO):Ext R w (R.upto w.heap.size n (R.obj++[ro])) (w.drew.alloc x):=
 ⟨fun _ _ h=>.inl h,fun b o h=>bV (heap_alloc_old w.drew x b (wf b o h)) o,fun _ r h=>⟨r,dc h,cw.refl r⟩,.old fun b hb=>heap_alloc_old w.drew x b hb⟩
theorem D1 (wf:∀ b o,R.I b o→b < w.heap.size) (x:Obj) {n id m:Nat} {r0:RO} (hid:nth R.obj id=some r0) (b' c':Nat) (cg:cw r0 (.tok m b' c')):Ext R w (R.upto w.heap.size n (aD R.obj id (.tok m b' c'))) (w.drew.alloc x):=
 ⟨fun _ _ h=>.inl h,fun b o h=>bV (heap_alloc_old w.drew x b (wf b o h)) o,fun i r h=>by
  by_cases e:id=i
  ·subst e
   rw [hid] at h
   cases h
   exact ⟨_,aJ hid,cg⟩
  ·exact ⟨r,by rw [ai.upto,bD e]; exact h,cw.refl r⟩,.old fun b hb=>heap_alloc_old w.drew x b hb⟩
theorem bi.Si (h:bi E R w β s a) {cur:Array Value} {elem:TypeId} {n sz cap:Nat} (hn:n≤cap) (hm:cap≤maxLen) (hs:cur.size=cap * sz) :
  bi E (R.upto w.heap.size (n * sz) (R.obj++[.tok n w.heap.size cap])) (w.drew.alloc (.cells cur elem)) β (s.dO (.tok n sz elem)) a ∧
  Step R w β s.boxes (R.upto w.heap.size (n * sz) (R.obj++[.tok n w.heap.size cap])) (w.drew.alloc (.cells cur elem)) β s.boxes:=by
 have e:=D0 (R:=R) (w:=w) h.g.wf (.cells cur elem) (n * sz) (.tok n w.heap.size cap)
 have old:∀ b,b < w.heap.size→(w.drew.alloc (.cells cur elem)).heap[b]?=w.heap[b]?:=fun b hb=>heap_alloc_old w.drew _ b hb
 have new:(w.drew.alloc (.cells cur elem)).heap[w.heap.size]?=some (.cells cur elem (0,0)):=heap_alloc_new w.drew _
 have hI:∀ b o,b < w.heap.size→(R.upto w.heap.size (n * sz) (R.obj++[.tok n w.heap.size cap])).I b o→R.I b o:=fun b o hb hi=>by
  rcases hi with hi | ⟨hi,_⟩
  ·exact hi
  ·omega
 refine ⟨⟨⟨by simp [St.dO,ai.upto,h.g.len],fun id g r h1 h2=>?_,fun i j ri rj b h1 h2 b1 b2=>?_,fun b o hi=>?_,fun g cs hg=>(h.g.b6 g cs hg).mono e,by first | exact h.g.lo | exact Nat.le_succ_of_le h.g.lo⟩,?_,h.t.mono e,h.n,h.d.mono e⟩,?_⟩
 ·rcases aw h2 with h2 | ⟨h3,rfl⟩
  ·have cg:=bF h2
   rw [h.g.len] at cg
   rcases aw h1 with h1 | ⟨h4,_⟩
   ·exact (h.g.obj id g r h1 h2).mono e (fun b hb=>old b (h.g.bS ⟨id,r,h2,hb⟩)) (fun b o hb=>hI b o (h.g.bS ⟨id,r,h2,hb⟩))
   ·omega
  ·rcases aw h1 with h1 | ⟨h4,rfl⟩
   ·have:=bF h1
    rw [h3,h.g.len] at this
    omega
   ·refine ⟨rfl,cur,new,hn,hm,hs,fun o' nL hi=>?_⟩
    rcases hi with hi | ⟨_,hi⟩
    ·have:=h.g.wf _ _ hi
     omega
    ·omega
 ·rcases aw h1 with g1 | ⟨h3,e1⟩
  ·rcases aw h2 with g2 | ⟨h4,e2⟩
   ·exact h.g.inj i j ri rj b g1 g2 b1 b2
   ·have:=h.g.bS ⟨i,ri,g1,b1⟩
    rw [e2] at b2
    simp [RO.has] at b2
    omega
  ·rcases aw h2 with g2 | ⟨h4,e2⟩
   ·have:=h.g.bS ⟨j,rj,g2,b2⟩
    rw [e1] at b1
    simp [RO.has] at b1
    omega
   ·omega
 ·rcases hi with hi | ⟨rfl,_⟩
  ·have:=h.g.wf b o hi
   simp
   omega
  ·simp
 ·refine h.b.cq e (fun k cs hk=>old _ (h.ee (.inr ⟨k,cs,hk,rfl⟩))) (fun k cs o hk=>hI _ o (h.ee (.inr ⟨k,cs,hk,rfl⟩))) (fun k cs hk hl=>?_)
  rcases ma (R:=R) (ro:=.tok n w.heap.size cap) hl with hl | hl
  ·exact hl
  ·have:=h.ee (.inr ⟨k,cs,hk,rfl⟩)
   simp [RO.has] at hl
   omega
 ·refine ⟨e,rfl,rfl,rfl,by simp,fun b hb _=>old b hb,fun b hb ho=>?_,fun b o hi hb _=>hI b o hb hi⟩
  rcases ho with ho | ho
  ·rcases ma (R:=R) (ro:=.tok n w.heap.size cap) ho with ho | ho
   ·exact .inl ho
   ·simp [RO.has] at ho
    omega
  ·exact .inr ho
theorem BV (wf:∀ b o,R.I b o→b < w.heap.size) (x:Obj) (n:Nat) (ro:RO):Ext R w (R.upto w.heap.size n (R.obj++[ro])) (w.alloc x):=
 ⟨fun _ _ h=>.inl h,fun b o h=>bV (heap_alloc_old w x b (wf b o h)) o,fun _ r h=>⟨r,dc h,cw.refl r⟩,.old fun b hb=>heap_alloc_old w x b hb⟩
theorem bi.M1 (h:bi E R w β s a) {cur:Array Value} {elem:TypeId} {n sz cap:Nat} (hn:n≤cap) (hm:cap≤maxLen) (hs:cur.size=cap * sz) :
  bi E (R.upto w.heap.size (n * sz) (R.obj++[.tok n w.heap.size cap])) (w.alloc (.cells cur elem)) β (s.dO (.tok n sz elem)) a ∧
  Step R w β s.boxes (R.upto w.heap.size (n * sz) (R.obj++[.tok n w.heap.size cap])) (w.alloc (.cells cur elem)) β s.boxes:=by
 have e:=BV (R:=R) (w:=w) h.g.wf (.cells cur elem) (n * sz) (.tok n w.heap.size cap)
 have old:∀ b,b < w.heap.size→(w.alloc (.cells cur elem)).heap[b]?=w.heap[b]?:=fun b hb=>heap_alloc_old w _ b hb
 have new:(w.alloc (.cells cur elem)).heap[w.heap.size]?=some (.cells cur elem (0,0)):=heap_alloc_new w _
 have hI:∀ b o,b < w.heap.size→(R.upto w.heap.size (n * sz) (R.obj++[.tok n w.heap.size cap])).I b o→R.I b o:=fun b o hb hi=>by
  rcases hi with hi | ⟨hi,_⟩
  ·exact hi
  ·omega
 refine ⟨⟨⟨by simp [St.dO,ai.upto,h.g.len],fun id g r h1 h2=>?_,fun i j ri rj b h1 h2 b1 b2=>?_,fun b o hi=>?_,fun g cs hg=>(h.g.b6 g cs hg).mono e,by first | exact h.g.lo | exact Nat.le_succ_of_le h.g.lo⟩,?_,h.t.mono e,h.n,h.d.mono e⟩,?_⟩
 ·rcases aw h2 with h2 | ⟨h3,rfl⟩
  ·have cg:=bF h2
   rw [h.g.len] at cg
   rcases aw h1 with h1 | ⟨h4,_⟩
   ·exact (h.g.obj id g r h1 h2).mono e (fun b hb=>old b (h.g.bS ⟨id,r,h2,hb⟩)) (fun b o hb=>hI b o (h.g.bS ⟨id,r,h2,hb⟩))
   ·omega
  ·rcases aw h1 with h1 | ⟨h4,rfl⟩
   ·have:=bF h1
    rw [h3,h.g.len] at this
    omega
   ·refine ⟨rfl,cur,new,hn,hm,hs,fun o' nL hi=>?_⟩
    rcases hi with hi | ⟨_,hi⟩
    ·have:=h.g.wf _ _ hi
     omega
    ·omega
 ·rcases aw h1 with g1 | ⟨h3,e1⟩
  ·rcases aw h2 with g2 | ⟨h4,e2⟩
   ·exact h.g.inj i j ri rj b g1 g2 b1 b2
   ·have:=h.g.bS ⟨i,ri,g1,b1⟩
    rw [e2] at b2
    simp [RO.has] at b2
    omega
  ·rcases aw h2 with g2 | ⟨h4,e2⟩
   ·have:=h.g.bS ⟨j,rj,g2,b2⟩
    rw [e1] at b1
    simp [RO.has] at b1
    omega
   ·omega
 ·rcases hi with hi | ⟨rfl,_⟩
  ·have:=h.g.wf b o hi
   simp
   omega
  ·simp
 ·refine h.b.cq e (fun k cs hk=>old _ (h.ee (.inr ⟨k,cs,hk,rfl⟩))) (fun k cs o hk=>hI _ o (h.ee (.inr ⟨k,cs,hk,rfl⟩))) (fun k cs hk hl=>?_)
  rcases ma (R:=R) (ro:=.tok n w.heap.size cap) hl with hl | hl
  ·exact hl
  ·have:=h.ee (.inr ⟨k,cs,hk,rfl⟩)
   simp [RO.has] at hl
   omega
 ·refine ⟨e,rfl,rfl,rfl,by simp,fun b hb _=>old b hb,fun b hb ho=>?_,fun b o hi hb _=>hI b o hb hi⟩
  rcases ho with ho | ho
  ·rcases ma (R:=R) (ro:=.tok n w.heap.size cap) ho with ho | ho
   ·exact .inl ho
   ·simp [RO.has] at ho
    omega
  ·exact .inr ho
theorem sU (h:bi E R w β s a) (t:TypeId) (len:Nat) (parts:Array (Nat × Operand)) (ho:o.op=.buildSlice t len parts) {k:LK} {esz:Nat} {es:List AV} (hv:bX E s t len parts.toList=some (.list k esz es)) {i:TI} (hi:E.ti t=some i) {elem bE nT:Nat} {ag:Bool} {z:Option AV} (hk:i.k=.sl elem bE ag nT z) (hm:len≤65536) :
  bQ E R w β s a o ((s.dO (.tok len esz elem)).put o.dst (.v (.list (.own s.G.length) esz es))):=by
 obtain ⟨es',Sd,us,Wb,V8,bt,g2,hlen,u2,u3,i',ZE,V7,z',qM,iK⟩:=iD h t len parts ho hv
 cases V8
 rw [hi] at qM
 cases qM
 rw [hk] at iK
 cases iK
 have Wc:us.length=len * esz:=by rw [← u2.length,dL g2,hlen]
 obtain ⟨r1,r2⟩:=h.M1 (cur:=⟨us⟩) (elem:=elem) (n:=len) (sz:=esz) (cap:=len) (Nat.le_refl _) (by simp [maxLen]; omega) (by simpa using Wc)
 refine ⟨_,.slice (some ⟨w.heap.size,0,none⟩) len len,_,_,β,bt,.inl rfl,r1.put o.dst (x:=.v (.list (.own s.G.length) esz es)) ?_,by rw [a7]; exact r2⟩
 refine Rel.list (me g2 (dP.make (u2.mono r2.ext) u3 (fun j x hx=>?_) (fun j hj=>.inr ⟨rfl,?_⟩))) hlen.symm (Nat.le_refl _) ⟨.tok len w.heap.size len,gn h _,?_⟩
 ·rw [jl (heap_alloc_new w _)]
  simpa using hx
 ·rw [dL g2,hlen] at hj
  omega
 ·exact ⟨Nat.le_refl _,fun _=>⟨rfl,rfl,rfl⟩⟩
theorem bi.IY (h:bi E R w β s a) {cur:Array Value} {elem e0:TypeId} {n sz cap id f:Nat} {r0:RO} (hg:nth s.G id=some (.tok f sz e0)) (hid:nth R.obj id=some r0) (hf:∀ b c,cw r0 (.tok n b c)) (hn:n≤cap) (hm:cap≤maxLen) (hs:cur.size=cap * sz) :
  bi E (R.upto w.heap.size (n * sz) (aD R.obj id (.tok n w.heap.size cap))) (w.drew.alloc (.cells cur elem)) β (s.bW (aD s.G id (.tok n sz elem))) a ∧
  Step R w β s.boxes (R.upto w.heap.size (n * sz) (aD R.obj id (.tok n w.heap.size cap))) (w.drew.alloc (.cells cur elem)) β s.boxes:=by
 have e:=D1 (R:=R) (w:=w) (n:=n * sz) h.g.wf (.cells cur elem) hid w.heap.size cap (hf _ _)
 have old:∀ b,b < w.heap.size→(w.drew.alloc (.cells cur elem)).heap[b]?=w.heap[b]?:=fun b hb=>heap_alloc_old w.drew _ b hb
 have new:(w.drew.alloc (.cells cur elem)).heap[w.heap.size]?=some (.cells cur elem (0,0)):=heap_alloc_new w.drew _
 have hI:∀ b o,b < w.heap.size→(R.upto w.heap.size (n * sz) (aD R.obj id (.tok n w.heap.size cap))).I b o→R.I b o:=fun b o hb hi=>by
  rcases hi with hi | ⟨hi,_⟩
  ·exact hi
  ·omega
 have live:∀ b,b < w.heap.size→Live (R.upto w.heap.size (n * sz) (aD R.obj id (.tok n w.heap.size cap))) b→Live R b:=fun b hb hl=>by
  obtain ⟨i,r,h1,h2⟩:=hl
  rcases aI hid h1 with ⟨_,rfl⟩ | ⟨_,h1⟩
  ·simp [RO.has] at h2
   omega
  ·exact ⟨i,r,h1,h2⟩
 refine ⟨⟨⟨by simp [St.bW,ai.upto,h.g.len],fun i gg r h1 h2=>?_,fun i j ri rj b h1 h2 b1 b2=>?_,fun b o hi=>?_,fun g cs hg=>(h.g.b6 g cs hg).mono e,by first | exact h.g.lo | exact Nat.le_succ_of_le h.g.lo⟩,?_,h.t.mono e,h.n,h.d.mono e⟩,?_⟩
 ·rcases aI hid h2 with ⟨rfl,rfl⟩ | ⟨cm,h2⟩
  ·simp only [St.bW] at h1
   rw [aJ hg] at h1
   cases h1
   refine ⟨rfl,cur,new,hn,hm,hs,fun o' nL hi=>?_⟩
   rcases hi with hi | ⟨_,hi⟩
   ·have:=h.g.wf _ _ hi
    omega
   ·omega
  ·simp only [St.bW] at h1
   rw [bD (Ne.symm cm)] at h1
   exact (h.g.obj i gg r h1 h2).mono e (fun b hb=>old b (h.g.bS ⟨i,r,h2,hb⟩)) (fun b o hb=>hI b o (h.g.bS ⟨i,r,h2,hb⟩))
 ·rcases aI hid h1 with ⟨g3,e1⟩ | ⟨g3,g1⟩
  ·rcases aI hid h2 with ⟨g4,e2⟩ | ⟨g4,g2⟩
   ·omega
   ·have:=h.g.bS ⟨j,rj,g2,b2⟩
    rw [e1] at b1
    simp [RO.has] at b1
    omega
  ·rcases aI hid h2 with ⟨g4,e2⟩ | ⟨g4,g2⟩
   ·have:=h.g.bS ⟨i,ri,g1,b1⟩
    rw [e2] at b2
    simp [RO.has] at b2
    omega
   ·exact h.g.inj i j ri rj b g1 g2 b1 b2
 ·rcases hi with hi | ⟨rfl,_⟩
  ·have:=h.g.wf b o hi
   simp
   omega
  ·simp
 ·exact h.b.cq e (fun k cs hk=>old _ (h.ee (.inr ⟨k,cs,hk,rfl⟩))) (fun k cs o hk=>hI _ o (h.ee (.inr ⟨k,cs,hk,rfl⟩))) (fun k cs hk hl=>live _ (h.ee (.inr ⟨k,cs,hk,rfl⟩)) hl)
 ·refine ⟨e,rfl,rfl,rfl,by simp,fun b hb _=>old b hb,fun b hb ho=>?_,fun b o hi hb _=>hI b o hb hi⟩
  rcases ho with ho | ho
  ·exact .inl (live b hb ho)
  ·exact .inr ho
theorem bi.M2 (h:bi E R w β s a) {cur:Array Value} {news:List Value} {elem:TypeId} {n sz id f g c:Nat} (hg:nth s.G id=some (.tok f sz elem)) (hid:nth R.obj id=some (.tok f g c)) (hf:f < n) (hn:n≤c)
  (iN:w.heap[g]?=some (.cells cur elem (0,0))) (hs:cur.size=c * sz) (hm:c≤maxLen) (hl:f * sz+news.length=n * sz) :
  Ext R w (R.upto g (n * sz) (aD R.obj id (.tok n g c))) (w.setRow g (cur.toList.take (f * sz)++news++cur.toList.drop (f * sz+news.length)).toArray) ∧
  bi E (R.upto g (n * sz) (aD R.obj id (.tok n g c))) (w.setRow g (cur.toList.take (f * sz)++news++cur.toList.drop (f * sz+news.length)).toArray) β (s.bW (aD s.G id (.tok n sz elem))) a ∧
  Step R w β s.boxes (R.upto g (n * sz) (aD R.obj id (.tok n g c))) (w.setRow g (cur.toList.take (f * sz)++news++cur.toList.drop (f * sz+news.length)).toArray) β s.boxes:=by
 obtain ⟨_,BW,QX,_,_,_,jm⟩:=h.g.obj id _ _ hg hid
 rw [iN] at QX
 cases QX
 have hle:n * sz≤c * sz:=Nat.mul_le_mul_right _ hn
 generalize rk:(cur.toList.take (f * sz)++news++cur.toList.drop (f * sz+news.length)).toArray=cur2
 have old:∀ b,b≠g→(w.setRow g cur2).heap[b]?=w.heap[b]?:=fun b hb=>setRow_other w g b cur2 hb
 have new:(w.setRow g cur2).heap[g]?=some (.cells cur2 elem (0,0)):=setRow_heap w g cur cur2 elem (0,0) iN
 have hlen:f * sz≤cur.toList.length:=by simp; omega
 have eO:cur2.size=c * sz:=by
  rw [← rk]
  simp
  omega
 have qf:Live R g:=⟨id,_,hid,rfl⟩
 have e:Ext R w (R.upto g (n * sz) (aD R.obj id (.tok n g c))) (w.setRow g cur2):=by
  refine ⟨fun _ _ hi=>.inl hi,fun b o hi=>?_,fun i r hr=>?_,fun b r hb=>⟨r,(old b fun e=>by subst e; rw [iN] at hb; cases hb).trans hb,rfl,rfl,rfl,rfl,rfl⟩⟩
  ·by_cases hb:b=g
   ·subst hb
    have ho:o < f * sz:=Nat.lt_of_not_le fun hle=>jm o hle hi
    simp only [World.cell?,new,iN]
    have:cur2[o]?=cur[o]?:=by
     rw [← rk,List.append_assoc]
     simp only [List.getElem?_toArray]
     rw [List.getElem?_append_left (by simp; omega),List.getElem?_take,if_pos ho,Array.getElem?_toList]
    simp [this]
   ·exact bV (old b hb) o
  ·by_cases ei:id=i
   ·subst ei
    rw [hid] at hr
    cases hr
    exact ⟨_,aJ hid,by omega,fun e=>by omega⟩
   ·exact ⟨r,by rw [ai.upto,bD ei]; exact hr,cw.refl r⟩
 have hI:∀ b o,b≠g→(R.upto g (n * sz) (aD R.obj id (.tok n g c))).I b o→R.I b o:=fun b o hb hi=>by
  rcases hi with hi | ⟨hi,_⟩
  ·exact hi
  ·exact absurd hi hb
 have live:∀ b,Live (R.upto g (n * sz) (aD R.obj id (.tok n g c))) b→Live R b:=fun b hl=>by
  obtain ⟨i,r,h1,h2⟩:=hl
  rcases aI hid h1 with ⟨_,rfl⟩ | ⟨_,h1⟩
  ·exact ⟨id,_,hid,h2⟩
  ·exact ⟨i,r,h1,h2⟩
 have qg:∀ k cs,dm s.boxes k=some cs→β k≠g:=fun k cs hk eq=>(h.b.box k cs hk).2.2 (eq ▸ qf)
 refine ⟨e,⟨⟨by simp [St.bW,ai.upto,h.g.len],fun i gg r h1 h2=>?_,fun i j ri rj b h1 h2 b1 b2=>?_,fun b o hi=>?_,fun g cs hg=>(h.g.b6 g cs hg).mono e,by first | exact h.g.lo | exact Nat.le_succ_of_le h.g.lo⟩,?_,h.t.mono e,h.n,h.d.mono e⟩,?_⟩
 ·rcases aI hid h2 with ⟨rfl,rfl⟩ | ⟨cm,h2⟩
  ·simp only [St.bW] at h1
   rw [aJ hg] at h1
   cases h1
   refine ⟨rfl,cur2,new,hn,hm,eO,fun o' nL hi=>?_⟩
   rcases hi with hi | ⟨_,hi⟩
   ·exact jm o' (Nat.le_trans (Nat.mul_le_mul_right _ (Nat.le_of_lt hf)) nL) hi
   ·omega
  ·simp only [St.bW] at h1
   rw [bD (Ne.symm cm)] at h1
   have Sj:∀ b,r.has b→b≠g:=fun b hb eq=>cm (h.g.inj i id _ _ b h2 hid hb (by rw [eq]; rfl))
   exact (h.g.obj i gg r h1 h2).mono e (fun b hb=>old b (Sj b hb)) (fun b o hb=>hI b o (Sj b hb))
 ·rcases aI hid h1 with ⟨g3,e1⟩ | ⟨g3,g1⟩
  ·rcases aI hid h2 with ⟨g4,e2⟩ | ⟨g4,g2⟩
   ·omega
   ·rw [e1] at b1
    exact g3.trans (h.g.inj id j _ _ b hid g2 b1 b2)
  ·rcases aI hid h2 with ⟨g4,e2⟩ | ⟨g4,g2⟩
   ·rw [e2] at b2
    exact (h.g.inj i id _ _ b g1 hid b1 b2).trans g4.symm
   ·exact h.g.inj i j ri rj b g1 g2 b1 b2
 ·rcases hi with hi | ⟨rfl,_⟩
  ·have:=h.g.wf b o hi
   simpa using this
  ·have:=bg iN
   simpa using this
 ·exact h.b.cq e (fun k cs hk=>old _ (qg k cs hk)) (fun k cs o hk=>hI _ o (qg k cs hk)) (fun k cs hk hl=>live _ hl)
 ·refine ⟨e,rfl,rfl,rfl,by simp,fun b hb sV=>old b (fun eq=>sV (.inl (eq ▸ qf))),fun b hb ho=>?_,fun b o hi hb sV=>hI b o (fun eq=>sV (.inl (eq ▸ qf))) hi⟩
  rcases ho with ho | ho
  ·exact .inl (live b ho)
  ·exact .inr ho
structure One (w w':World) (x:Obj):Prop where
 old:∀ b,b < w.heap.size→w'.heap[b]?=w.heap[b]?
 new:w'.heap[w.heap.size]?=some x
 size:w'.heap.size=w.heap.size+1
 os:w'.os=w.os
 tape:w'.tape=w.tape
 output:w'.output=w.output
 drawn:w.drawn≤w'.drawn
theorem One.alloc (w:World) (x:Obj):One w (w.alloc x) x:=⟨fun b hb=>heap_alloc_old w x b hb,heap_alloc_new w x,by simp,rfl,rfl,rfl,Nat.le_refl _⟩
theorem One.drew (w:World) (x:Obj):One w (w.drew.alloc x) x:=⟨fun b hb=>heap_alloc_old w.drew x b hb,heap_alloc_new w.drew x,by simp,rfl,rfl,rfl,Nat.le_succ _⟩
theorem M3 {w':World} {x:Obj} (o1:One w w' x) (wf:∀ b o,R.I b o→b < w.heap.size) {n id:Nat} {r0 r1:RO} (hid:nth R.obj id=some r0) (hle:cw r0 r1):Ext R w (R.upto w.heap.size n (aD R.obj id r1)) w':=
 ⟨fun _ _ h=>.inl h,fun b o h=>bV (o1.old b (wf b o h)) o,fun i r h=>by
  by_cases e:id=i
  ·subst e
   rw [hid] at h
   cases h
   exact ⟨_,aJ hid,hle⟩
  ·exact ⟨r,by rw [ai.upto,bD e]; exact h,cw.refl r⟩,.old fun b hb=>o1.old b hb⟩
theorem bi.Sk (h:bi E R w β s a) {w':World} {x:Obj} (o1:One w w' x) {n id:Nat} {r0 r1:RO} {Is go:GO} (hg:nth s.G id=some Is) (hid:nth R.obj id=some r0) (hle:cw r0 r1) (vQ:∀ b,r1.has b→b=w.heap.size∨r0.has b)
  (iy:gF (R.upto w.heap.size n (aD R.obj id r1)) w' go r1) :
  bi E (R.upto w.heap.size n (aD R.obj id r1)) w' β (s.bW (aD s.G id go)) a∧Step R w β s.boxes (R.upto w.heap.size n (aD R.obj id r1)) w' β s.boxes:=by
 have e:=M3 (R:=R) (n:=n) o1 h.g.wf hid hle
 have hI:∀ b o,b < w.heap.size→(R.upto w.heap.size n (aD R.obj id r1)).I b o→R.I b o:=fun b o hb hi=>by
  rcases hi with hi | ⟨hi,_⟩
  ·exact hi
  ·omega
 have live:∀ b,b < w.heap.size→Live (R.upto w.heap.size n (aD R.obj id r1)) b→Live R b:=fun b hb hl=>by
  obtain ⟨i,r,h1,h2⟩:=hl
  rcases aI hid h1 with ⟨_,rfl⟩ | ⟨_,h1⟩
  ·rcases vQ b h2 with h3 | h3
   ·omega
   ·exact ⟨id,r0,hid,h3⟩
  ·exact ⟨i,r,h1,h2⟩
 refine ⟨⟨⟨by simp [St.bW,ai.upto,h.g.len],fun i gg r h1 h2=>?_,fun i j ri rj b h1 h2 b1 b2=>?_,fun b o hi=>?_,fun g cs hg=>(h.g.b6 g cs hg).mono e,Nat.le_trans h.g.lo o1.drawn⟩,?_,h.t.mono e,h.n,h.d.mono e⟩,?_⟩
 ·rcases aI hid h2 with ⟨rfl,rfl⟩ | ⟨cm,h2⟩
  ·simp only [St.bW] at h1
   rw [aJ hg] at h1
   cases h1
   exact iy
  ·simp only [St.bW] at h1
   rw [bD (Ne.symm cm)] at h1
   exact (h.g.obj i gg r h1 h2).mono e (fun b hb=>o1.old b (h.g.bS ⟨i,r,h2,hb⟩)) (fun b o hb=>hI b o (h.g.bS ⟨i,r,h2,hb⟩))
 ·rcases aI hid h1 with ⟨g3,e1⟩ | ⟨g3,g1⟩
  ·rcases aI hid h2 with ⟨g4,e2⟩ | ⟨g4,g2⟩
   ·omega
   ·rw [e1] at b1
    rcases vQ b b1 with b3 | b3
    ·have:=h.g.bS ⟨j,rj,g2,b2⟩
     omega
    ·exact g3.trans (h.g.inj id j _ _ b hid g2 b3 b2)
  ·rcases aI hid h2 with ⟨g4,e2⟩ | ⟨g4,g2⟩
   ·rw [e2] at b2
    rcases vQ b b2 with b3 | b3
    ·have:=h.g.bS ⟨i,ri,g1,b1⟩
     omega
    ·exact (h.g.inj i id _ _ b g1 hid b1 b3).trans g4.symm
   ·exact h.g.inj i j ri rj b g1 g2 b1 b2
 ·rcases hi with hi | ⟨rfl,_⟩
  ·have:=h.g.wf b o hi
   rw [o1.size]
   omega
  ·rw [o1.size]; omega
 ·exact h.b.cq e (fun k cs hk=>o1.old _ (h.ee (.inr ⟨k,cs,hk,rfl⟩))) (fun k cs o hk=>hI _ o (h.ee (.inr ⟨k,cs,hk,rfl⟩))) (fun k cs hk hl=>live _ (h.ee (.inr ⟨k,cs,hk,rfl⟩)) hl)
 ·refine ⟨e,o1.os,o1.tape,o1.output,by rw [o1.size]; omega,fun b hb _=>o1.old b hb,fun b hb ho=>?_,fun b o hi hb _=>hI b o hb hi⟩
  rcases ho with ho | ho
  ·exact .inl (live b hb ho)
  ·exact .inr ho
theorem bi.M4 (h:bi E R w β s a) {cur cur2:Array Value} {elem:TypeId} {n id g:Nat} {r0 r1:RO} {Is go:GO} (hg:nth s.G id=some Is) (hid:nth R.obj id=some r0) (MH:r0.has g) (hle:cw r0 r1) (vQ:∀ b,r1.has b→r0.has b)
  (iN:w.heap[g]?=some (.cells cur elem (0,0))) (vR:∀ o,R.I g o→cur2[o]?=cur[o]?)
  (iy:Ext R w (R.upto g n (aD R.obj id r1)) (w.setRow g cur2)→gF (R.upto g n (aD R.obj id r1)) (w.setRow g cur2) go r1) :
  Ext R w (R.upto g n (aD R.obj id r1)) (w.setRow g cur2)∧bi E (R.upto g n (aD R.obj id r1)) (w.setRow g cur2) β (s.bW (aD s.G id go)) a∧Step R w β s.boxes (R.upto g n (aD R.obj id r1)) (w.setRow g cur2) β s.boxes:=by
 have old:∀ b,b≠g→(w.setRow g cur2).heap[b]?=w.heap[b]?:=fun b hb=>setRow_other w g b cur2 hb
 have new:(w.setRow g cur2).heap[g]?=some (.cells cur2 elem (0,0)):=setRow_heap w g cur cur2 elem (0,0) iN
 have qf:Live R g:=⟨id,_,hid,MH⟩
 have e:Ext R w (R.upto g n (aD R.obj id r1)) (w.setRow g cur2):=by
  refine ⟨fun _ _ hi=>.inl hi,fun b o hi=>?_,fun i r hr=>?_,fun b r hb=>⟨r,(old b fun e=>by subst e; rw [iN] at hb; cases hb).trans hb,rfl,rfl,rfl,rfl,rfl⟩⟩
  ·by_cases hb:b=g
   ·subst hb
    simp only [World.cell?,new,iN,vR o hi]
   ·exact bV (old b hb) o
  ·by_cases ei:id=i
   ·subst ei
    rw [hid] at hr
    cases hr
    exact ⟨_,aJ hid,hle⟩
   ·exact ⟨r,by rw [ai.upto,bD ei]; exact hr,cw.refl r⟩
 have hI:∀ b o,b≠g→(R.upto g n (aD R.obj id r1)).I b o→R.I b o:=fun b o hb hi=>by
  rcases hi with hi | ⟨hi,_⟩
  ·exact hi
  ·exact absurd hi hb
 have live:∀ b,Live (R.upto g n (aD R.obj id r1)) b→Live R b:=fun b hl=>by
  obtain ⟨i,r,h1,h2⟩:=hl
  rcases aI hid h1 with ⟨_,rfl⟩ | ⟨_,h1⟩
  ·exact ⟨id,_,hid,vQ b h2⟩
  ·exact ⟨i,r,h1,h2⟩
 have qg:∀ k cs,dm s.boxes k=some cs→β k≠g:=fun k cs hk eq=>(h.b.box k cs hk).2.2 (eq ▸ qf)
 refine ⟨e,⟨⟨by simp [St.bW,ai.upto,h.g.len],fun i gg r h1 h2=>?_,fun i j ri rj b h1 h2 b1 b2=>?_,fun b o hi=>?_,fun g cs hg=>(h.g.b6 g cs hg).mono e,h.g.lo⟩,?_,h.t.mono e,h.n,h.d.mono e⟩,?_⟩
 ·rcases aI hid h2 with ⟨rfl,rfl⟩ | ⟨cm,h2⟩
  ·simp only [St.bW] at h1
   rw [aJ hg] at h1
   cases h1
   exact iy e
  ·simp only [St.bW] at h1
   rw [bD (Ne.symm cm)] at h1
   have Sj:∀ b,r.has b→b≠g:=fun b hb eq=>cm (h.g.inj i id _ _ b h2 hid hb (by rw [eq]; exact MH))
   exact (h.g.obj i gg r h1 h2).mono e (fun b hb=>old b (Sj b hb)) (fun b o hb=>hI b o (Sj b hb))
 ·rcases aI hid h1 with ⟨g3,e1⟩ | ⟨g3,g1⟩
  ·rcases aI hid h2 with ⟨g4,e2⟩ | ⟨g4,g2⟩
   ·omega
   ·rw [e1] at b1
    exact g3.trans (h.g.inj id j _ _ b hid g2 (vQ b b1) b2)
  ·rcases aI hid h2 with ⟨g4,e2⟩ | ⟨g4,g2⟩
   ·rw [e2] at b2
    exact (h.g.inj i id _ _ b g1 hid b1 (vQ b b2)).trans g4.symm
   ·exact h.g.inj i j ri rj b g1 g2 b1 b2
 ·rcases hi with hi | ⟨rfl,_⟩
  ·have:=h.g.wf b o hi
   simpa using this
  ·have:=bg iN
   simpa using this
 ·exact h.b.cq e (fun k cs hk=>old _ (qg k cs hk)) (fun k cs o hk=>hI _ o (qg k cs hk)) (fun k cs hk hl=>live _ hl)
 ·refine ⟨e,rfl,rfl,rfl,by simp,fun b hb sV=>old b (fun eq=>sV (.inl (eq ▸ qf))),fun b hb ho=>?_,fun b o hi hb sV=>hI b o (fun eq=>sV (.inl (eq ▸ qf))) hi⟩
  rcases ho with ho | ho
  ·exact .inl (live b ho)
  ·exact .inr ho
theorem sM.set {ts:List TR} {j:Nat} {t t':TR} (ht:nth ts j=some t) (hle:lF t t'):sM ts (aD ts j t'):=fun i u hu=>by
 by_cases e:j=i
 ·subst e
  rw [ht] at hu
  cases hu
  exact ⟨t',aJ ht,hle⟩
 ·exact ⟨u,by rw [bD e]; exact hu,lF.refl u⟩
theorem FD {ts:List TR} {j n g c b:Nat} (h:RO.has (.bf (aD ts j (.tok n g c))) b):b=g∨RO.has (.bf ts) b:=by
 obtain ⟨i,f,c',hi⟩:=h
 rcases da hi with ⟨_,e,_⟩ | ⟨_,hi⟩
 ·cases e; exact .inl rfl
 ·exact .inr ⟨i,f,c',hi⟩
theorem zh.of {R':ai} {w':World} {sz f:Nat} {e:TypeId} {t:TR} (h:zh R w sz e f t) (hold:∀ f b c,t=.tok f b c→w'.heap[b]?=w.heap[b]?∧∀ o,R'.I b o→R.I b o):zh R' w' sz e f t:=by
 cases t with
 | bz=>exact h
 | full f'=>exact h
 | tok f' b c=>
  obtain ⟨h0,cur,h1,h2,h3,h4,h5⟩:=h
  obtain ⟨k1,k2⟩:=hold f' b c rfl
  exact ⟨h0,cur,k1.trans h1,h2,h3,h4,fun o ho hi=>h5 o ho (k2 o hi)⟩
theorem vB.set {R':ai} {w':World} {sz:Nat} {e:TypeId} {fs:List Nat} {ts:List TR} (h:vB R w sz e fs ts) {j n g c:Nat} (rk:zh R' w' sz e n (.tok n g c)) (IZ:∀ i f c,nth ts i=some (.tok f g c)→i=j)
  (hold:∀ i f b c,i≠j→nth ts i=some (.tok f b c)→w'.heap[b]?=w.heap[b]?∧∀ o,R'.I b o→R.I b o):vB R' w' sz e (aD fs j n) (aD ts j (.tok n g c)):=by
 obtain ⟨h1,h2,h3⟩:=h
 refine ⟨by simp [h1],fun i i' f1 b c1 f2 c2 q1 q2=>?_,fun i f1 t1 q1 q2=>?_⟩
 ·rcases da q1 with ⟨n1,e1,_⟩ | ⟨n1,q1⟩
  ·cases e1
   rcases da q2 with ⟨n2,_,_⟩ | ⟨n2,q2⟩
   ·exact n1.symm.trans n2
   ·exact absurd (IZ _ _ _ q2).symm n2
  ·rcases da q2 with ⟨n2,e2,_⟩ | ⟨n2,q2⟩
   ·cases e2
    exact (IZ _ _ _ q1).trans n2
   ·exact h2 i i' _ _ _ _ _ q1 q2
 ·rcases da q1 with ⟨n1,e1,_⟩ | ⟨n1,q1⟩
  ·rcases da q2 with ⟨_,e2,_⟩ | ⟨n2,_⟩
   ·subst e1 e2
    exact rk
   ·exact absurd n1 n2
  ·rcases da q2 with ⟨n2,_,_⟩ | ⟨n2,q2⟩
   ·exact absurd n2 n1
   ·exact (h3 i f1 t1 q1 q2).of fun f b c ht=>by subst ht; exact hold i f b c (Ne.symm n2) q2
end ops
end Go.Am
