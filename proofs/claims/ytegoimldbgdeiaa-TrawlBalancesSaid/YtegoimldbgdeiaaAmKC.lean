/- The abstract machine: what it does is what the model does: slices that are built and cut. -/
import Derived.Test.YtegoimldbgdeiaaAmKB
import Derived.IntWalk
set_option linter.all false
namespace Go.Am
open Go
theorem cr (l r:List AV):ar (l++r)=ar l++ar r:=by
 induction l with
 | nil=>rfl
 | cons e l ih=>simp [ar,ih]
theorem cu {sz:Nat} {es:List AV} (h:gT sz es):(ar es).length=es.length * sz:=by
 induction es with
 | nil=>simp [ar]
 | cons e es ih=>
  have h1:=(h e (by simp)).1
  have:=ih (fun x hx=>h x (by simp [hx]))
  simp only [ar,List.length_append,this,h1,List.length_cons,Nat.add_mul]
  omega
section rel
variable {R:aj} {w:World}
theorem ls {b sz:Nat}:∀ {es:List AV} {o:Nat},gT sz es→eu R w b o (ar es)→gj R w b o sz es
 | [],_,_,_=>.nil
 | e :: es,o,h,hc=>by
  obtain ⟨h1,h2,h3⟩:=h e (by simp)
  obtain ⟨vs,k1,k2,k3,k4⟩:=hc.get
  have hd:=hc.drop sz
  have Oz:(ar (e :: es)).drop sz=ar es:=by simp only [ar]; rw [← h1,List.drop_left]
  have E6:(ar (e :: es)).take sz=e.cells:=by simp only [ar]; rw [← h1,List.take_left]
  rw [Oz] at hd
  refine .cons h1 h2 h3 ?_ (ls (fun x hx=>h x (by simp [hx])) hd)
  have kt:=k1.take sz
  rw [E6] at kt
  refine .make kt (fun v hv=>k2 v (List.mem_of_mem_take hv)) (fun j v hv=>k3 j v ?_) (fun j hj=>k4 j ?_)
  ·rw [List.getElem?_take] at hv
   split at hv
   ·exact hv
   ·cases hv
  ·simp only [ar,List.length_append]
   omega
theorem tF {b sz:Nat}:∀ {es:List AV} {o:Nat},gj R w b o sz es→gT sz es∧∃ vs,aE R w (ar es) vs∧(∀ v∈vs,v.oneCell'=true)∧(∀ j v,vs[j]?=some v→w.cell? ⟨b,o+j,none⟩=some v)∧∀ j,j < es.length * sz→R.I b (o+j)
 | [],o,_=>⟨fun e he=>by simp at he,[],.nil,by simp,by simp,by simp⟩
 | e :: es,o,h=>by
  cases h with
  | cons hl ht hk hc t=>
   obtain ⟨g0,vs,g1,g2,g3,g4⟩:=tF t
   obtain ⟨us,f1,f2,f3,f4⟩:=hc.get
   have hlen:us.length=sz:=by rw [← f1.length,hl]
   refine ⟨fun x hx=>?_,us++vs,f1.append g1,fun v hv=>?_,fun j v hv=>?_,fun j hj=>?_⟩
   ·rcases List.mem_cons.1 hx with rfl | hx
    ·exact ⟨hl,ht,hk⟩
    ·exact g0 x hx
   ·rcases List.mem_append.1 hv with hv | hv
    ·exact f2 v hv
    ·exact g2 v hv
   ·by_cases hj:j < sz
    ·rw [List.getElem?_append_left (by omega)] at hv
     exact f3 j v hv
    ·rw [List.getElem?_append_right (by omega),hlen] at hv
     have:=g3 _ v hv
     rwa [show o+sz+(j - sz)=o+j by omega] at this
   ·by_cases Hq:j < sz
    ·exact f4 j (by omega)
    ·have:=g4 (j - sz) (by simp only [List.length_cons,Nat.add_mul] at hj; omega)
     rwa [show o+sz+(j - sz)=o+j by omega] at this
theorem wz {b sz:Nat}:∀ (n:Nat) {es:List AV} {o:Nat},gj R w b o sz es→gj R w b (o+n * sz) sz (es.drop n)
 | 0,es,o,h=>by simpa using h
 | n+1,[],o,h=>by simpa using gj.nil
 | n+1,e :: es,o,h=>by
  cases h with
  | cons hl ht hk hc t=>
   have:=wz n t
   rw [show o+sz+n * sz=o+(n+1) * sz by rw [Nat.add_mul]; omega] at this
   simpa using this
theorem qU {b sz:Nat}:∀ (n:Nat) {es:List AV} {o:Nat},gj R w b o sz es→gj R w b o sz (es.take n)
 | 0,es,o,h=>by simpa using gj.nil
 | n+1,[],o,h=>by simpa using gj.nil
 | n+1,e :: es,o,h=>by
  cases h with
  | cons hl ht hk hc t=>simpa using gj.cons hl ht hk hc (qU n t)
end rel
theorem fG {sz n:Nat} {z:AV} (h1:z.cells.length=sz) (h2:z.aL=true) (h3:z.closed=true):gT sz (List.replicate n z):=fun e he=>by
 rw [List.mem_replicate] at he
 rw [he.2]
 exact ⟨h1,h2,h3⟩
theorem tG {sz:Nat}:∀ {es:List AV} {i:Nat} {v:AV},gT sz es→i < es.length→v.cells.length=sz→ar (ax es i v)=bI (ar es) (i * sz) v.cells
 | [],i,v,_,h,_=>by simp at h
 | e :: es,0,v,h,_,hv=>by
  have h1:=(h e (by simp)).1
  simp only [ax,ar,Nat.zero_mul]
  rw [eB _ 0 _ (by simp; omega)]
  simp only [List.take_zero,List.nil_append,Nat.zero_add]
  rw [hv,← h1,List.drop_left]
 | e :: es,i+1,v,h,hi,hv=>by
  have h1:=(h e (by simp)).1
  have EG:gT sz es:=fun x hx=>h x (by simp [hx])
  have ih:=tG (i:=i) (v:=v) EG (by simpa using hi) hv
  have bK:i < es.length:=by simpa using hi
  have hle:i * sz+sz≤es.length * sz:=by rw [← Nat.succ_mul]; exact Nat.mul_le_mul_right _ bK
  have hl:=cu EG
  simp only [ax,ar]
  have e1:(i+1) * sz=e.cells.length+i * sz:=by rw [h1,Nat.succ_mul]; omega
  have e2:List.take (e.cells.length+i * sz) e.cells=e.cells:=List.take_of_length_le (by omega)
  rw [ih,eB _ _ _ (by omega),e1,eB _ _ _ (by simp only [List.length_append]; omega)]
  rw [List.take_append,e2,Nat.add_assoc,List.drop_append,List.drop_of_length_le (by omega:e.cells.length≤e.cells.length+(i * sz+v.cells.length))]
  simp [Nat.add_sub_cancel_left]
theorem DF {sz:Nat} {es:List AV} {i:Nat} {v:AV} (h:gT sz es) (h1:v.cells.length=sz) (h2:v.aL=true) (h3:v.closed=true):gT sz (ax es i v):=fun e he=>by
 rw [gw] at he
 rcases List.mem_or_eq_of_mem_set he with he | rfl
 ·exact h e he
 ·exact ⟨h1,h2,h3⟩
theorem rU {sz:Nat}:∀ {ps:List (Nat × AV)} {es es':List AV},yY sz es ps=some es'→gT sz es →
  rP (fun i=>some (i * sz,sz)) (ar es) ps=some (ar es')∧gT sz es'∧es'.length=es.length
 | [],es,es',h,hk=>by simp [yY] at h; subst h; exact ⟨rfl,hk,rfl⟩
 | (i,v) :: ps,es,es',h,hk=>by
  unfold yY at h
  split at h
  ·rename_i hc
   simp only [Bool.and_eq_true] at hc
   obtain ⟨⟨⟨hn,hl⟩,hi⟩,JJ⟩:=hc
   have TN:=Nat.eq_of_beq_eq_true hl
   have oB:=Nat.le_of_ble_eq_true hi
   obtain ⟨g1,g2,g3⟩:=rU h (DF hk TN hn JJ)
   refine ⟨?_,g2,by simpa using g3⟩
   unfold rP
   have hle:Nat.ble (i * sz+sz) (ar es).length=true:=by
    apply Nat.ble_eq_true_of_le
    rw [cu hk,← Nat.succ_mul]
    exact Nat.mul_le_mul_right _ oB
   simp only [hn,hl,hle,Bool.and_self,if_true]
   rw [← tG hk (by omega) TN]
   exact g1
  ·cases h
section ops
variable {E:Env} {R:aj} {w:World} {β:Nat→Nat} {s:St} {a:Act} {o:Oper}
def aj.NK (R:aj) (b:Nat):aj:=⟨fun b' o=>R.I b' o∨b'=b,R.obj⟩
theorem xF (wf:∀ b o,R.I b o→b < w.heap.size) (x:Obj):Ext R w (R.NK w.heap.size) (w.alloc x):=
 ⟨fun _ _ h=>.inl h,fun b o h=>bQ (heap_alloc_old w x b (wf b o h)) o,fun _ ro h=>⟨ro,h,bZ.refl ro⟩,.old fun b hb=>heap_alloc_old w x b hb⟩
theorem aV.NK (h:aV E R w β s a) (x:Obj):aV E (R.NK w.heap.size) (w.alloc x) β s a:=
 h.aW (xF h.g.wf x) rfl (fun b hb=>heap_alloc_old w x b (h.dL hb)) (fun b o hb hi=>by
  rcases hi with hi | hi
  ·exact hi
  ·have:=h.dL hb
   omega) (fun b o hi=>by
  rcases hi with hi | hi
  ·have:=h.g.wf b o hi
   simp
   omega
  ·simp
   omega)
theorem E7 (h:aV E R w β s a) (x:Obj):Step R w β s.boxes (R.NK w.heap.size) (w.alloc x) β s.boxes:=
 ⟨xF h.g.wf x,rfl,rfl,rfl,by simp,fun b hb _=>heap_alloc_old w x b hb,fun _ _ ho=>ho,fun b o hi hb _=>by
  rcases hi with hi | hi
  ·exact hi
  ·omega⟩
theorem mX (z:Array Value):∀ (n:Nat),(((Array.range (n * z.size)).map fun i=>z[i % z.size]!)).toList=(List.replicate n z.toList).flatten
 | 0=>by simp
 | n+1=>by
  have ih:=mX z n
  simp only [Array.toList_map,Array.toList_range] at ih ⊢
  rw [Nat.add_mul,Nat.one_mul,List.range_add,List.map_append,ih,List.replicate_succ',List.flatten_append]
  congr 1
  simp only [List.map_map,List.flatten_cons,List.flatten_nil,List.append_nil]
  apply List.ext_getElem?
  intro i
  by_cases hi:i < z.size
  ·simp only [List.getElem?_map,List.getElem?_range hi,Option.map_some,Function.comp_apply]
   rw [Nat.mul_comm n,Nat.mul_add_mod,Nat.mod_eq_of_lt hi]
   simp [hi]
  ·rw [List.getElem?_eq_none (by simp; omega),List.getElem?_eq_none (by simp; omega)]
theorem lu {z:AV} {c:Value} (hr:Rel R w z c) (hn:z.aL=true):∀ (n:Nat),aE R w (ar (List.replicate n z)) (List.replicate n c.cells.toList).flatten∧∀ v∈(List.replicate n c.cells.toList).flatten,v.oneCell'=true
 | 0=>by simp [ar]; exact .nil
 | n+1=>by
  obtain ⟨c1,c2⟩:=Rel.cells hr hn
  obtain ⟨h1,h2⟩:=lu hr hn n
  refine ⟨?_,fun v hv=>?_⟩
  ·simpa [List.replicate_succ,ar] using c1.append h1
  ·simp only [List.replicate_succ,List.flatten_cons,List.mem_append] at hv
   rcases hv with hv | hv
   ·exact c2 v hv
   ·exact h2 v hv
theorem qV:∀ {ps:List (Nat × AV)} {us:List Value},aE R w (ps.map (·.2)) us→aE R w ((vZ ps).map (·.2)) us
 | [],_,h=>h
 | (_,_) :: _,_,.cons h t=>.cons h.gf (qV t)
theorem qW:∀ (ps:List (Nat × AV)),(vZ ps).map (·.1)=ps.map (·.1)
 | []=>rfl
 | (i,v) :: l=>by simp [vZ,qW l]
theorem gU (h:aV E R w β s a) (t:TypeId) (len:Nat) (parts:Array (Nat × Operand)) (ho:o.op=.buildSlice t len parts) {v:AV} (hv:bH E s t len parts.toList=some v) :
  ∃ es esz us elem,v=.list .full esz es∧(execOp a.eval o).run E.P w=.ok (.value (.slice (some ⟨w.heap.size,0,none⟩) len len)) (w.alloc (.cells ⟨us⟩ elem))∧gT esz es∧es.length=len∧aE R w (ar es) us∧(∀ x∈us,x.oneCell'=true)∧∃ i ag mU z,E.ti t=some i∧i.k=.sl elem esz ag mU z:=by
 unfold bH at hv
 split at hv
 ·rename_i i ps hi EF
  split at hv
  ·rename_i elem esz ag mU z hk
   split at hv
   ·rename_i hc
    simp only [Bool.and_eq_true] at hc
    obtain ⟨⟨⟨⟨DG,OA⟩,OB⟩,hz4⟩,hz5⟩:=hc
    have DG:=Nat.eq_of_beq_eq_true DG
    have OA:=Nat.le_of_ble_eq_true OA
    have OB:=Nat.le_of_ble_eq_true OB
    split at hv
    ·rename_i es EG
     cases hv
     obtain ⟨gb,u,e1,e2,e3,e4,e5,e6⟩:=bG E hi
     rw [hk] at e5
     obtain ⟨ie,ue,rfl,f1,f2,f3,f4,f5,f6⟩:=cW e5
     obtain ⟨zc,nX,AI⟩:=cM f6
     have JK:=AI R w
     obtain ⟨c1,c2⟩:=Rel.cells JK hz4
     have pP:zc.cells.size=esz:=by rw [← DG,c1.length]; simp
     obtain ⟨p1,p2⟩:=sW h EF
     obtain ⟨z1,z2⟩:=lu JK hz4 len
     obtain ⟨g1,g2,g3⟩:=rU EG (fG DG hz4 hz5)
     obtain ⟨us,u1,u2,u3⟩:=mW (R:=R) (w:=w) _ (qV p1) ((qW ps).trans p2) z1 z2 g1
     have KZ:(parts.map fun (x:Nat × Operand)=>(x.1,a.eval x.2)).toList=parts.toList.map fun x=>(x.1,a.eval x.2):=by simp
     have tH:((Array.range (len * esz)).map fun i=>zc.cells[i % zc.cells.size]!)=⟨(List.replicate len zc.cells.toList).flatten⟩:=by
      apply Array.ext'
      rw [← pP]
      exact mX zc.cells len
     have hlen:es.length=len:=by simpa using g3
     have bf:(Instr.buildSlice t len (parts.map fun (x:Nat × Operand)=>(x.1,a.eval x.2))).run E.P w=.ok (.slice (some ⟨w.heap.size,0,none⟩) len len) (w.alloc (.cells ⟨us⟩ elem)):=by
      have Hp:¬ len * esz > 2 ^ 24:=by omega
      by_cases h0:len * esz=0
      ·have sB:len=0:=by
        rcases Nat.mul_eq_zero.1 h0 with h0 | h0 <;> omega
       subst sB
       have Ri:Instr.fill (fun i=>some (i * esz,esz)) #[] (parts.toList.map fun x=>(x.1,a.eval x.2))=some ⟨us⟩:=by simpa using u1
       simp only [Instr.buildSlice,Sem.run_bind,run_underlying e2,Result.andThen_ok,run_sizeOf w f1,f2]
       simp only [Nat.zero_mul,gt_iff_lt,Nat.not_lt_zero,if_false,if_true,Sem.run_bind,Sem.run_pure,Result.andThen_ok,KZ]
       have zd:∀ f:Nat→Value,Array.map f (Array.range 0)=#[]:=fun f=>by simp
       simp only [zd,Ri,newRow,Sem.run_bind,run_newObj,Result.andThen_ok,Sem.run_pure]
       rfl
      ·simp only [Instr.buildSlice,Sem.run_bind,run_underlying e2,Result.andThen_ok,run_sizeOf w f1,f2]
       rw [if_neg Hp,if_neg h0]
       simp only [Sem.run_bind,Sem.run_pure,Result.andThen_ok,gk w f1 nX,KZ,tH,u1,newRow,run_newObj]
       rfl
     exact ⟨es,esz,us,elem,rfl,by simp only [execOp,ho,Sem.run_bind,bf,Result.andThen_ok,Sem.run_pure],g2,hlen,u2,u3,i,ag,mU,_,hi,hk⟩
    ·cases hv
   ·cases hv
  ·cases hv
 ·cases hv
theorem sC (h:aV E R w β s a) (t:TypeId) (len:Nat) (parts:Array (Nat × Operand)) (ho:o.op=.buildSlice t len parts) {cs:List AV} (hv:jr E s t len parts.toList=some cs) :
  ∃ esz us elem,(execOp a.eval o).run E.P w=.ok (.value (.slice (some ⟨w.heap.size,0,none⟩) len len)) (w.alloc (.cells ⟨us⟩ elem))∧aE R w cs us∧(∀ x∈us,x.oneCell'=true)∧∃ i ag mU z,E.ti t=some i∧i.k=.sl elem esz ag mU z:=by
 unfold jr at hv
 split at hv
 ·rename_i i ps hi EF
  split at hv
  ·rename_i elem esz ag mU z hk
   split at hv
   ·rename_i hc
    simp only [Bool.and_eq_true] at hc
    obtain ⟨⟨⟨DG,OA⟩,OB⟩,hz4⟩:=hc
    have DG:=Nat.eq_of_beq_eq_true DG
    have OA:=Nat.le_of_ble_eq_true OA
    have OB:=Nat.le_of_ble_eq_true OB
    ·have g1:=hv
     obtain ⟨gb,u,e1,e2,e3,e4,e5,e6⟩:=bG E hi
     rw [hk] at e5
     obtain ⟨ie,ue,rfl,f1,f2,f3,f4,f5,f6⟩:=cW e5
     obtain ⟨zc,nX,AI⟩:=cM f6
     have JK:=AI R w
     obtain ⟨c1,c2⟩:=Rel.cells JK hz4
     have pP:zc.cells.size=esz:=by rw [← DG,c1.length]; simp
     obtain ⟨p1,p2⟩:=sW h EF
     obtain ⟨z1,z2⟩:=lu JK hz4 len
     obtain ⟨us,u1,u2,u3⟩:=mW (R:=R) (w:=w) _ (qV p1) ((qW ps).trans p2) z1 z2 g1
     have KZ:(parts.map fun (x:Nat × Operand)=>(x.1,a.eval x.2)).toList=parts.toList.map fun x=>(x.1,a.eval x.2):=by simp
     have tH:((Array.range (len * esz)).map fun i=>zc.cells[i % zc.cells.size]!)=⟨(List.replicate len zc.cells.toList).flatten⟩:=by
      apply Array.ext'
      rw [← pP]
      exact mX zc.cells len
     have bf:(Instr.buildSlice t len (parts.map fun (x:Nat × Operand)=>(x.1,a.eval x.2))).run E.P w=.ok (.slice (some ⟨w.heap.size,0,none⟩) len len) (w.alloc (.cells ⟨us⟩ elem)):=by
      have Hp:¬ len * esz > 2 ^ 24:=by omega
      by_cases h0:len * esz=0
      ·have sB:len=0:=by
        rcases Nat.mul_eq_zero.1 h0 with h0 | h0 <;> omega
       subst sB
       have Ri:Instr.fill (fun i=>some (i * esz,esz)) #[] (parts.toList.map fun x=>(x.1,a.eval x.2))=some ⟨us⟩:=by simpa using u1
       simp only [Instr.buildSlice,Sem.run_bind,run_underlying e2,Result.andThen_ok,run_sizeOf w f1,f2]
       simp only [Nat.zero_mul,gt_iff_lt,Nat.not_lt_zero,if_false,if_true,Sem.run_bind,Sem.run_pure,Result.andThen_ok,KZ]
       have zd:∀ f:Nat→Value,Array.map f (Array.range 0)=#[]:=fun f=>by simp
       simp only [zd,Ri,newRow,Sem.run_bind,run_newObj,Result.andThen_ok,Sem.run_pure]
       rfl
      ·simp only [Instr.buildSlice,Sem.run_bind,run_underlying e2,Result.andThen_ok,run_sizeOf w f1,f2]
       rw [if_neg Hp,if_neg h0]
       simp only [Sem.run_bind,Sem.run_pure,Result.andThen_ok,gk w f1 nX,KZ,tH,u1,newRow,run_newObj]
       rfl
     exact ⟨esz,us,elem,by simp only [execOp,ho,Sem.run_bind,bf,Result.andThen_ok,Sem.run_pure],u2,u3,i,ag,mU,_,hi,hk⟩
   ·cases hv
  ·cases hv
 ·cases hv
theorem sD (h:aV E R w β s a) (t:TypeId) (len:Nat) (parts:Array (Nat × Operand)) (ho:o.op=.buildSlice t len parts) {v:AV} (hv:bH E s t len parts.toList=some v) :
  bz E R w β s a o (s.put o.dst (.v v)):=by
 obtain ⟨es,esz,us,elem,rfl,bf,g2,hlen,u2,u3,_⟩:=gU h t len parts ho hv
 have e:=xF (R:=R) (w:=w) h.g.wf (.cells ⟨us⟩ elem)
 refine ⟨_,.slice (some ⟨w.heap.size,0,none⟩) len len,_,R.NK w.heap.size,β,bf,.inl rfl,(h.NK (.cells ⟨us⟩ elem)).put o.dst ?_,by rw [aP]; exact E7 h _⟩
 refine Rel.list (ls g2 (eu.make (u2.mono e) u3 (fun j x hx=>?_) (fun j _=>.inr rfl))) hlen.symm (Nat.le_refl _) rfl
 rw [iH (heap_alloc_new w _)]
 simpa using hx
theorem qX (h:aV E R w β s a) (t:TypeId) (len:Nat) (parts:Array (Nat × Operand)) (ho:o.op=.buildSlice t len parts) {cs:List AV} (hv:jr E s t len parts.toList=some cs) {i:TI} (hi:E.ti t=some i) {el:TypeId} {esz eb:Nat} {ag:Bool} {z:Option AV} (hk:i.k=.sl el esz ag eb z) :
  bz E R w β s a o ((s.dA (.row cs el)).put o.dst (.v (.iR s.G.length 0 esz len len))):=by
 obtain ⟨K0,us,elem,bf,u2,u3,i',Rj,NL,z',oB,iY⟩:=sC h t len parts ho hv
 rw [hi] at oB
 cases oB
 rw [hk] at iY
 cases iY
 have e:=fS (R:=R) (w:=w) h.g.wf (.cells ⟨us⟩ el) (.bq w.heap.size)
 have gR:fZ (R.add (.bq w.heap.size)) (w.alloc (.cells ⟨us⟩ el)) (.row cs el) (.bq w.heap.size):=
  ⟨_,heap_alloc_new w _,u2.mono e,u3,fun o' hi=>by have:=h.g.wf _ _ hi; omega⟩
 exact ⟨_,_,_,R.add (.bq w.heap.size),β,bf,.inl rfl,(h.jO _ _ _ (by exact fun _ h=>h) gR).put o.dst (x:=.v (.iR s.G.length 0 esz len len)) (Rel.iR (fq h _) (Nat.le_refl _)),by rw [aP]; exact cm h _ _ (by exact fun _ h=>h)⟩
theorem qY (h:aV E R w β s a) (t:TypeId) (len:Nat) (parts:Array (Nat × Operand)) (ho:o.op=.buildSlice t len parts) {k:LK} {esz:Nat} {es:List AV} (hv:bH E s t len parts.toList=some (.list k esz es)) {i:TI} (hi:E.ti t=some i) {el:TypeId} {bl eb:Nat} {ag:Bool} {z:Option AV} (hk:i.k=.sl el bl ag eb z) :
  bz E R w β s a o ((s.dA (.row (ar es) el)).put o.dst (.v (.iR s.G.length 0 esz len len))):=by
 obtain ⟨es',K0,us,elem,OC,bf,g2,hlen,u2,u3,i',Rj,NL,z',oB,iY⟩:=gU h t len parts ho hv
 cases OC
 rw [hi] at oB
 cases oB
 rw [hk] at iY
 cases iY
 have e:=fS (R:=R) (w:=w) h.g.wf (.cells ⟨us⟩ el) (.bq w.heap.size)
 have gR:fZ (R.add (.bq w.heap.size)) (w.alloc (.cells ⟨us⟩ el)) (.row (ar es) el) (.bq w.heap.size):=
  ⟨_,heap_alloc_new w _,u2.mono e,u3,fun o' hi=>by have:=h.g.wf _ _ hi; omega⟩
 exact ⟨_,_,_,R.add (.bq w.heap.size),β,bf,.inl rfl,(h.jO _ _ _ (by exact fun _ h=>h) gR).put o.dst (x:=.v (.iR s.G.length 0 esz len len)) (Rel.iR (fq h _) (Nat.le_refl _)),by rw [aP]; exact cm h _ _ (by exact fun _ h=>h)⟩
end ops
end Go.Am
namespace Go.Am
open Go
section ops
variable {E:Env} {R:aj} {w:World} {β:Nat→Nat} {s:St} {a:Act} {o:Oper}
def K1 (R:aj) (w:World) (β:Nat→Nat):Option SV→Option Value→Prop
 | none,none=>True
 | some x,some c=>ow R w β x c
 | _,_=>False
theorem wA {y y' n:Nat} {x:SV} {c:Value} (hx:ow R w β x c) (hb:xr y x=some (true,n)) (hy:y≤y') (code:BoundsCode) :
  (Instr.sliceBound c y' code).run E.P w=.ok n w∧n≤y:=by
 unfold xr at hb
 split at hb
 ·rename_i k m
  injection hb with hb
  injection hb with h1 h2
  subst h2
  obtain ⟨h0,h3⟩:=of_decide_eq_true h1
  have sy:Rel R w (.int k m) c:=hx
  cases sy
  exact ⟨run_sliceBound (P:=E.P) w k m y' code h0 (by omega),by omega⟩
 ·cases hb
theorem dE (TO:Bool) {len cap l h:Nat} (yO:len≤cap) {lo hi:Option SV} {lv hv:Option Value} (hl:K1 R w β lo lv) (hh:K1 R w β hi hv) (hb:AR len lo hi=some (true,l,h)) :
  (Instr.sliceBounds TO len cap lv hv none).run E.P w=.ok (l,h,cap) w∧l≤h∧h≤len:=by
 unfold AR at hb
 split at hb
 ·cases hb
 ·rename_i c1 h' jH
  split at hb
  ·cases hb
  ·rename_i c2 l' K2
   injection hb with hb
   injection hb with hc hb
   injection hb with e1 e2
   subst e1; subst e2
   simp only [Bool.and_eq_true] at hc
   obtain ⟨rfl,rfl⟩:=hc
   have H:∃ _:True,(match hv with | some v=>Instr.sliceBound v cap (if TO=true then .sliceAcap else .sliceAlen) | none=>pure len).run E.P w=.ok h' w∧h'≤len:=by
    refine ⟨trivial,?_⟩
    cases hi with
    | none=>cases hv with
     | none=>simp at jH; subst jH; exact ⟨rfl,Nat.le_refl _⟩
     | some v=>exact hh.elim
    | some x=>cases hv with
     | none=>exact hh.elim
     | some v=>exact wA (E:=E) hh jH yO _
   have L:∃ _:True,(match lv with | some v=>Instr.sliceBound v h' .sliceB | none=>pure 0).run E.P w=.ok l' w∧l'≤h':=by
    refine ⟨trivial,?_⟩
    cases lo with
    | none=>cases lv with
     | none=>simp at K2; subst K2; exact ⟨rfl,Nat.zero_le _⟩
     | some v=>exact hl.elim
    | some x=>cases lv with
     | none=>exact hl.elim
     | some v=>exact wA (E:=E) hl K2 (Nat.le_refl _) _
   obtain ⟨_,H1,H2⟩:=H
   obtain ⟨_,L1,L2⟩:=L
   refine ⟨?_,L2,H2⟩
   cases hv <;> cases lv <;> simp_all [Instr.sliceBounds]
theorem ze (h:aV E R w β s a) {x:Option Operand} {y:Option SV} (hx:lP E s.ae x=some y):K1 R w β y (x.map a.eval):=by
 cases x with
 | none=>simp [lP] at hx; subst hx; trivial
 | some x=>simp [lP] at hx; subst hx; exact aI h x
theorem mY {α:Type} {l:List α} {lo hi:Nat} (h:hi≤l.length):(oV lo hi l).length=hi - lo:=by
 simp [oV]
 omega
theorem vH (l:List UInt8) (lo hi:Nat):(⟨⟨l⟩⟩:ByteArray).extract lo hi=⟨⟨oV lo hi l⟩⟩:=by
 apply ByteArray.ext
 rw [ByteArray.data_extract]
 apply Array.ext'
 simp [List.extract_eq_take_drop,oV,List.drop_take]
theorem Cz {ag:Bool} {b sz:Nat} (eC:(ag || Nat.beq sz 1)=true):∀ (n:Nat) {cs:List AV} {o:Nat},eu R w b o cs→n * sz≤cs.length→allFit (AS ag) (gB ag sz n cs)=true→gj R w b o sz (gB ag sz n cs)
 | 0,_,_,_,_,_=>.nil
 | n+1,cs,o,hc,hl,hf=>by
  simp only [gB,allFit,Bool.and_eq_true] at hf
  obtain ⟨tJ,QA⟩:=hf
  unfold AS at tJ
  simp only [Bool.and_eq_true] at tJ
  obtain ⟨⟨h1,h2⟩,h3⟩:=tJ
  have hle:sz≤cs.length:=by rw [Nat.succ_mul] at hl; omega
  have kW:(Ol ag (cs.take sz)).cells=cs.take sz:=by
   cases ag with
   | true=>rfl
   | false=>
    have JH:sz=1:=by simpa using eC
    subst JH
    match cs,hle with
    | a :: cs,_=>
     show AV.cells a=[a]
     have ho:a.one=true:=by simpa [Ol,dN] using h2
     cases a <;> first | rfl | simp [AV.one] at ho
  obtain ⟨vs,k1,k2,k3,k4⟩:=hc.get
  have hA:eu R w b o (cs.take sz):=eu.make (k1.take sz) (fun v hv=>k2 v (List.mem_of_mem_take hv)) (fun j v hv=>k3 j v (by
   rw [List.getElem?_take] at hv
   split at hv
   ·exact hv
   ·cases hv)) (fun j hj=>k4 j (by rw [List.length_take] at hj; omega))
  exact .cons (by rw [kW,List.length_take,Nat.min_eq_left hle]) h1 h3 (by rw [kW]; exact hA) (Cz eC n (hc.drop sz) (by rw [List.length_drop]; rw [Nat.succ_mul] at hl; omega) QA)
theorem oD (ag:Bool) (sz:Nat):∀ (n:Nat) (cs:List AV),(gB ag sz n cs).length=n
 | 0,_=>rfl
 | n+1,cs=>by simp [gB,oD ag sz n]
theorem A8 (h:aV E R w β s a) (t:TypeId) (x:Operand) (lo hi:Option Operand) (ho:o.op=.slice t x lo hi none) {l h':Option SV} (hl:lP E s.ae lo=some l) (hh:lP E s.ae hi=some h') {v:AV} (hv:xu E t (bc E s.ae x) l h' none=some (true,v)) :
  bz E R w β s a o (s.put o.dst (.v v)):=by
 have rx:=aI h x
 have rl:=ze h hl
 have rh:=ze h hh
 unfold xu at hv
 split at hv
 ·rename_i i oB TP
  obtain ⟨gb,u,e1,e2,e3,e4,e5,e6⟩:=bG E oB
  split at hv
  ·-- a string
   rename_i bs hk hx
   rw [hx] at rx
   have df:Rel R w (.str bs) (a.eval x):=rx
   generalize eX:a.eval x=xv at df
   cases df
   rw [hk] at e5
   have:=jP e5
   subst this
   split at hv
   ·rename_i c p q hb
    injection hv with hv
    injection hv with h1 h2
    subst h1; subst h2
    obtain ⟨k1,k2,k3⟩:=dE (E:=E) false (Nat.le_refl _) rl rh hb
    refine ap h (c:=.string ⟨⟨oV p q bs⟩⟩) ?_ (Rel.str _)
    rw [← vH]
    simp only [execOp,ho,Instr.sliceAt,Sem.run_bind,run_underlying e2,Result.andThen_ok,Instr.slice,eX,Option.map_none,Option.isSome_none,Bool.false_eq_true,if_false,size_bytes,k1,Sem.run_pure]
   ·cases hv
  ·-- a list
   rename_i elem esz ag mU z k sz es hk hx
   rw [hx] at rx
   rw [hk] at e5
   obtain ⟨ie,ue,rfl,f1,f2,f3,f4,f5,f6⟩:=cW e5
   split at hv
   ·rename_i eC
    split at hv
    ·rename_i c p q hb
     injection hv with hv
     injection hv with h1 h2
     subst h1; subst h2
     have df:Rel R w (.list k sz es) (a.eval x):=rx
     generalize eX:a.eval x=xv at df
     cases df with
     | iF=>
      obtain ⟨k1,k2,k3⟩:=dE (E:=E) true (Nat.le_refl _) rl rh hb
      simp only [List.length_nil,Nat.le_zero_eq] at k3
      subst k3
      have:p=0:=by omega
      subst this
      refine ap h (c:=.slice none 0 0) ?_ ?_
      ·simp only [execOp,ho,Instr.sliceAt,Sem.run_bind,run_underlying e2,Result.andThen_ok,Instr.slice,eX,Option.map_none]
       simp only [List.length_nil] at k1
       simp [k1,run_sizeOf w f1]
      ·exact Rel.iF
     | ib=>
      obtain ⟨k1,k2,k3⟩:=dE (E:=E) true (Nat.le_refl _) rl rh hb
      simp only [List.length_nil,Nat.le_zero_eq] at k3
      subst k3
      have:p=0:=by omega
      subst this
      refine ap h (c:=.slice none 0 0) ?_ ?_
      ·simp only [execOp,ho,Instr.sliceAt,Sem.run_bind,run_underlying e2,Result.andThen_ok,Instr.slice,eX,Option.map_none]
       simp only [List.length_nil] at k1
       simp [k1,run_sizeOf w f1]
      ·exact Rel.ib
     | @lT _ ad=>
      obtain ⟨k1,k2,k3⟩:=dE (E:=E) true (Nat.le_refl _) rl rh hb
      simp only [List.length_nil,Nat.le_zero_eq] at k3
      subst k3
      have:p=0:=by omega
      subst this
      refine ap h (c:=.slice (some ad) 0 0) ?_ ?_
      ·simp only [execOp,ho,Instr.sliceAt,Sem.run_bind,run_underlying e2,Result.andThen_ok,Instr.slice,eX,Option.map_none]
       simp only [List.length_nil] at k1
       simp [k1,run_sizeOf w f1]
      ·exact Rel.lT
     | lU h0 h00=>
      obtain ⟨k1,k2,k3⟩:=dE (E:=E) true (Nat.le_refl _) rl rh hb
      simp only [List.length_nil,Nat.le_zero_eq] at k3
      subst k3
      have:p=0:=by omega
      subst this
      refine ap h (c:=.slice none 0 0) ?_ ?_
      ·simp only [execOp,ho,Instr.sliceAt,Sem.run_bind,run_underlying e2,Result.andThen_ok,Instr.slice,eX,Option.map_none]
       simp only [List.length_nil] at k1
       simp [k1,run_sizeOf w f1]
      ·exact Rel.ib
     | kT h0 h00=>
      obtain ⟨k1,k2,k3⟩:=dE (E:=E) true (Nat.le_refl _) rl rh hb
      simp only [List.length_nil,Nat.le_zero_eq] at k3
      subst k3
      have:p=0:=by omega
      subst this
      refine ap h (c:=.slice none 0 0) ?_ ?_
      ·simp only [execOp,ho,Instr.sliceAt,Sem.run_bind,run_underlying e2,Result.andThen_ok,Instr.slice,eX,Option.map_none]
       simp only [List.length_nil] at k1
       simp [k1,run_sizeOf w f1]
      ·exact Rel.ib
     | @list _ _ _ b o' len cap hr hlen ig E2=>
      subst hlen
      obtain ⟨k1,k2,k3⟩:=dE (E:=E) true ig rl rh hb
      have OD:es≠[]→sz=esz:=fun cq=>by
       simp only [Bool.or_eq_true] at eC
       rcases eC with hc | hc
       ·exact Nat.eq_of_beq_eq_true hc
       ·simp at hc; exact absurd hc cq
      have bf:(execOp a.eval o).run E.P w=.ok (.value (.slice (if cap=p then some ⟨b,o',none⟩ else some ⟨b,o'+p * esz,none⟩) (q - p) (cap - p))) w:=by
       simp only [execOp,ho,Instr.sliceAt,Sem.run_bind,run_underlying e2,Result.andThen_ok,Instr.slice,eX,Option.map_none,k1,run_sizeOf w f1,f2,Sem.run_pure,Option.map_some,bY]
      have tK:∀ b2 o2,xx R (match k with | .nil=>LK.nil | .full=>(match h' with | none=>LK.full | some _=>LK.kr) | _=>LK.kr) b2 o2 (q - p) (cap - p):=by
       intro b2 o2
       cases k with
       | nil=>exact E2.elim
       | kr=>trivial
       | own id=>trivial
       | aU id j=>trivial
       | full=>
        have hc:cap=es.length:=E2
        cases h' with
        | some _=>trivial
        | none=>
         have hq:q=es.length:=by
          unfold AR at hb
          simp only at hb
          split at hb
          ·cases hb
          ·injection hb with hb
           injection hb with _ hb
           injection hb with _ hb
           exact hb.symm
         show cap - p=q - p
         omega
      by_cases NM:cap=p
      ·refine ap h (c:=.slice (some ⟨b,o',none⟩) (q - p) (cap - p)) (by rw [bf,if_pos NM]) ?_
       have he:oV p q es=[]:=List.eq_nil_of_length_eq_zero (by rw [mY k3]; omega)
       exact Rel.list (by rw [he]; exact .nil) (by rw [mY k3]) (by omega) (tK _ _)
      ·refine ap h (c:=.slice (some ⟨b,o'+p * esz,none⟩) (q - p) (cap - p)) (by rw [bf,if_neg NM]) ?_
       refine Rel.list ?_ (by rw [mY k3]) (by omega) (tK _ _)
       by_cases cq:es=[]
       ·subst cq
        simp [oV]
        exact .nil
       ·have:=OD cq
        subst this
        exact wz p (qU q hr)
    ·cases hv
   ·cases hv
  ·-- a heap slice
   rename_i elem esz ag mU z id off sz len cap hk hx
   rw [hx] at rx
   rw [hk] at e5
   obtain ⟨ie,ue,rfl,f1,f2,f3,f4,f5,f6⟩:=cW e5
   split at hv
   ·rename_i eC
    have eC:=Nat.eq_of_beq_eq_true eC
    subst eC
    split at hv
    ·rename_i c p q hb
     injection hv with hv
     injection hv with h1 h2
     subst h1; subst h2
     have df:Rel R w (.iR id off sz len cap) (a.eval x):=rx
     generalize eX:a.eval x=xv at df
     cases df with
     | @iR _ _ _ _ _ b hbk ig=>
      obtain ⟨k1,k2,k3⟩:=dE (E:=E) true ig rl rh hb
      refine ap h (c:=.slice (some ⟨b,bif Nat.beq cap p then off else off+p * sz,none⟩) (q - p) (cap - p)) ?_ (Rel.iR hbk (by omega))
      have hb:(bif Nat.beq cap p then off else off+p * sz)=if cap=p then off else off+p * sz:=by
       by_cases e:cap=p
       ·rw [if_pos e,e,show Nat.beq p p=true from Nat.beq_refl p]; rfl
       ·rw [if_neg e]
        cases hq:Nat.beq cap p with
        | true=>exact absurd (Nat.eq_of_beq_eq_true hq) e
        | false=>rfl
      rw [hb]
      simp only [execOp,ho,Instr.sliceAt,Sem.run_bind,run_underlying e2,Result.andThen_ok,Instr.slice,eX,Option.map_none,k1,run_sizeOf w f1,f2,Sem.run_pure,Option.map_some,bY]
      split <;> rfl
    ·cases hv
   ·cases hv
  ·-- a slice that grows
   rename_i elem esz ag mU z id f' off sz len hk hx
   rw [hx] at rx
   rw [hk] at e5
   obtain ⟨ie,ue,rfl,f1,f2,f3,f4,f5,f6⟩:=cW e5
   split at hv
   ·rename_i eC
    have eC:=Nat.eq_of_beq_eq_true eC
    subst eC
    split at hv
    ·rename_i c p q hb
     injection hv with hv
     injection hv with h1 h2
     subst h1; subst h2
     have df:Rel R w (.dM id f' off sz len) (a.eval x):=rx
     generalize eX:a.eval x=xv at df
     cases df with
     | iW h0 h00=>
      obtain ⟨k1,k2,k3⟩:=dE (E:=E) true (Nat.le_refl _) rl rh hb
      simp only [Nat.le_zero_eq] at k3
      subst k3
      have:p=0:=by omega
      subst this
      refine ap h (c:=.slice none 0 0) ?_ ?_
      ·simp only [execOp,ho,Instr.sliceAt,Sem.run_bind,run_underlying e2,Result.andThen_ok,Instr.slice,eX,Option.map_none]
       simp [k1,run_sizeOf w f1]
      ·exact Rel.iW h0 h00
     | @dM _ _ _ _ _ cap b o' ro bA eW ig=>
      obtain ⟨k1,k2,k3⟩:=dE (E:=E) true ig rl rh hb
      have bf:(execOp a.eval o).run E.P w=.ok (.value (.slice (if cap=p then some ⟨b,o',none⟩ else some ⟨b,o'+p * sz,none⟩) (q - p) (cap - p))) w:=by
       simp only [execOp,ho,Instr.sliceAt,Sem.run_bind,run_underlying e2,Result.andThen_ok,Instr.slice,eX,Option.map_none,k1,run_sizeOf w f1,f2,Sem.run_pure,Option.map_some,bY]
      have TQ:∀ o2,(o2=o'+p * sz∨cap=p)→Dx b o2 f' (off+p) sz (cap - p) ro:=fun o2 h2=>by
       cases ro with
       | none=>trivial
       | bj=>exact eW.elim
       | bq _=>exact eW.elim
       | aU _=>exact eW.elim
       | tok f1 b1 c1=>
        refine ⟨eW.1,fun e=>?_⟩
        obtain ⟨q1,q2,q3⟩:=eW.2 e
        refine ⟨q1,by omega,?_⟩
        rcases h2 with h2 | h2
        ·rcases q3 with q3 | q3
         ·exact .inl (by rw [h2,q3,Nat.add_mul])
         ·exact .inr (by omega)
        ·exact .inr (by omega)
      by_cases NM:cap=p
      ·exact ap h (c:=.slice (some ⟨b,o',none⟩) (q - p) (cap - p)) (by rw [bf,if_pos NM]) (Rel.dM bA (TQ _ (.inr NM)) (by omega))
      ·exact ap h (c:=.slice (some ⟨b,o'+p * sz,none⟩) (q - p) (cap - p)) (by rw [bf,if_neg NM]) (Rel.dM bA (TQ _ (.inl rfl)) (by omega))
    ·cases hv
   ·cases hv
  ·-- an array that never changes again
   rename_i len esz ag cs hk hx
   rw [hx] at rx
   rw [hk] at e5
   obtain ⟨e,ie,ue,rfl,f1,f2,f3,f4⟩:=mT e5
   split at hv
   ·split at hv
    ·rename_i cp
     simp only [Bool.and_eq_true] at cp
     obtain ⟨⟨⟨c1,c2⟩,c3⟩,c4⟩:=cp
     injection hv with hv
     injection hv with _ h2
     subst h2
     have df:Rel R w (.ep cs) (a.eval x):=rx
     generalize eX:a.eval x=xv at df
     cases df with
     | @ep _ b o' hr=>
     obtain ⟨k1,_,_⟩:=dE (E:=E) (w:=w) (R:=R) (β:=β) (l:=0) (h:=len) false (Nat.le_refl len) rl rh rfl
     refine ap h (c:=.slice (some ⟨b,o',none⟩) len len) ?_ (Rel.list (Cz c3 len hr (Nat.le_of_ble_eq_true c1) c4) (oD _ _ _ _).symm (Nat.le_refl _) rfl)
     simp only [execOp,ho,Instr.sliceAt,Sem.run_bind,run_underlying e2,Result.andThen_ok,eX,Instr.sureAddr,Option.map_none,k1,run_sizeOf w f1,f2,Sem.run_pure]
     by_cases sB:len=0
     ·subst sB
      simp
     ·simp [sB,bY]
    ·cases hv
   ·cases hv
  ·cases hv
 ·cases hv
theorem xG (h:aV E R w β s a) (t:TypeId) (ho:o.op=.makeMap t none):bz E R w β s a o ((s.dA (.map [])).put o.dst (.v (.map s.G.length))):=by
 have gR:fZ (R.add (.bq w.heap.size)) (w.alloc (.map #[] 0)) (.map []) (.bq w.heap.size):=⟨#[],0,heap_alloc_new w _,trivial,rfl,fun i e he=>by simp at he⟩
 refine ⟨_,.map (some w.heap.size),w.alloc (.map #[] 0),R.add (.bq w.heap.size),β,?_,.inl rfl,(h.jO (.map #[] 0) (.map []) (.bq w.heap.size) (by exact fun _ h=>h) gR).put o.dst (x:=.v (.map s.G.length)) (Rel.map (fq h _)),by rw [aP]; exact cm h _ _ (by exact fun _ h=>h)⟩
 simp only [execOp,ho,Instr.makeMap,Option.map_none,Sem.run_bind,run_newObj,Result.andThen_ok,Sem.run_pure]
 rfl
theorem oE (h:aV E R w β s a) (t:TypeId) (x y:Operand) (ho:o.op=.makeSlice t x y) {i:TI} (hi:E.ti t=some i) {k k':IntKind} {n m:Int} (hx:bc E s.ae x=.v (.int k n)) (hy:bc E s.ae y=.v (.int k' m))
  {elem esz mU:Nat} {ag:Bool} {z:AV} (hk:i.k=.sl elem esz ag mU (some z)) (hz:z.cells.length=esz) (DG:1≤esz) (oC:z.aL=true) (hc:0≤n∧n≤m∧m≤140737488355328∧m * mU≤140737488355328) :
  ∃ us,aE R w (ar (List.replicate m.toNat z)) us∧(∀ v∈us,v.oneCell'=true)∧(execOp a.eval o).run E.P w=.ok (.value (.slice (some ⟨w.heap.size,0,none⟩) n.toNat m.toNat)) (w.alloc (.cells ⟨us⟩ elem)):=by
 have rx:=aI h x
 have ry:=aI h y
 rw [hx] at rx
 rw [hy] at ry
 have df:Rel R w (.int k n) (a.eval x):=rx
 have mK:Rel R w (.int k' m) (a.eval y):=ry
 generalize eX:a.eval x=xv at df
 generalize NJ:a.eval y=yv at mK
 cases df
 cases mK
 obtain ⟨c1,c2,c3,c4⟩:=hc
 obtain ⟨gb,u,e1,e2,e3,e4,e5,e6⟩:=bG E hi
 rw [hk] at e5
 obtain ⟨ie,ue,rfl,f1,f2,f3,f4,f5,f6⟩:=cW e5
 obtain ⟨zc,nX,AI⟩:=cM f6
 have JK:=AI R w
 obtain ⟨d1,d2⟩:=Rel.cells JK oC
 have pP:zc.cells.size=esz:=by rw [← hz,d1.length]; simp
 obtain ⟨z1,z2⟩:=lu JK oC m.toNat
 have tH:((Array.range (m.toNat * esz)).map fun i=>zc.cells[i % zc.cells.size]!)=⟨(List.replicate m.toNat zc.cells.toList).flatten⟩:=by
  apply Array.ext'
  rw [← pP]
  exact mX zc.cells m.toNat
 have wn:IntKind.i64.wrap n=n:=IntWalk.i64_in n (by omega)
 have wm:IntKind.i64.wrap m=m:=IntWalk.i64_in m (by omega)
 have bf:(Instr.makeSlice t (.int k n) (.int k' m)).run E.P w=.ok (.slice (some ⟨w.heap.size,0,none⟩) n.toNat m.toNat) (w.alloc (.cells ⟨(List.replicate m.toNat zc.cells.toList).flatten⟩ elem)):=by
  have XA:(ie.bytes:Int) * m≤281474976710656:=by rw [f3,Int.mul_comm]; omega
  have OE:¬ 281474976710656 < (ie.bytes:Int) * m:=by omega
  have h1:¬ m < 0:=by omega
  have h2:¬ n < 0:=by omega
  have h3:¬ m < n:=by omega
  have K3:(typeInfo elem).run E.P w=.ok ie w:=by simp [typeInfo,f1]
  by_cases h0:m.toNat * esz=0
  ·have U9:m.toNat=0:=by
    rcases Nat.mul_eq_zero.1 h0 with h0 | h0 <;> omega
   have zd:∀ f:Nat→Value,Array.map f (Array.range 0)=#[]:=fun f=>by simp
   simp [Instr.makeSlice,run_underlying e2,asInt,asIntOf,K3,wn,wm,h1,h2,h3,OE,run_sizeOf w f1,f2,U9,newRow]
   rw [zd]
  ·simp [Instr.makeSlice,run_underlying e2,asInt,asIntOf,K3,wn,wm,h1,h2,h3,OE,run_sizeOf w f1,f2,h0,gk w f1 nX,newRow]
   rw [← tH]
 refine ⟨_,z1,z2,?_⟩
 simp only [execOp,ho,eX,NJ,Sem.run_bind,bf,Result.andThen_ok,Sem.run_pure]
theorem tL (h:aV E R w β s a) (t:TypeId) (x y:Operand) (ho:o.op=.makeSlice t x y) {i:TI} (hi:E.ti t=some i) {k k':IntKind} {n m:Int} (hx:bc E s.ae x=.v (.int k n)) (hy:bc E s.ae y=.v (.int k' m))
  {elem esz mU:Nat} {ag:Bool} {z:AV} (hk:i.k=.sl elem esz ag mU (some z)) (hz:z.cells.length=esz) (DG:1≤esz) (oC:z.aL=true) (hc:0≤n∧n≤m∧m≤140737488355328∧m * mU≤140737488355328) :
  bz E R w β s a o ((s.dA (.row (ar (List.replicate m.toNat z)) elem)).put o.dst (.v (.iR s.G.length 0 esz n.toNat m.toNat))):=by
 obtain ⟨us,z1,z2,bf⟩:=oE h t x y ho hi hx hy hk hz DG oC hc
 have e:=fS (R:=R) (w:=w) h.g.wf (.cells ⟨us⟩ elem) (.bq w.heap.size)
 have gR:fZ (R.add (.bq w.heap.size)) (w.alloc (.cells ⟨us⟩ elem)) (.row (ar (List.replicate m.toNat z)) elem) (.bq w.heap.size):=
  ⟨_,heap_alloc_new w _,z1.mono e,z2,fun o' hi=>by have:=h.g.wf _ _ hi; omega⟩
 exact ⟨_,.slice (some ⟨w.heap.size,0,none⟩) n.toNat m.toNat,_,R.add (.bq w.heap.size),β,bf,.inl rfl,(h.jO _ _ (.bq w.heap.size) (by exact fun _ h=>h) gR).put o.dst (x:=.v (.iR s.G.length 0 esz n.toNat m.toNat)) (Rel.iR (fq h _) (by omega)),by rw [aP]; exact cm h _ _ (by exact fun _ h=>h)⟩
end ops
end Go.Am
namespace Go.Am
open Go
section ops
variable {E:Env} {R:aj} {w:World} {β:Nat→Nat} {s:St} {a:Act} {o:Oper}
theorem jQ (x:Array Operand) (f:Operand→Value):x.map f=⟨x.toList.map f⟩:=Array.ext' (by simp)
theorem dw {b:Builtin} {args:Array Operand} {tys:Array TypeId} (ho:o.op=.call { callee:=.builtin b,args:=args,argTypes:=tys }) (vs:List Value) (hv:args.toList.map a.eval=vs) :
  (execOp a.eval o).run E.P w=(builtin b tys o.type (args.map fun | .const _=>true | _=>false) ⟨vs⟩).run E.P w:=by
 simp only [execOp,ho,resolve,Sem.run_bind,Sem.run_pure,Result.andThen_ok,invoke,jQ args a.eval,hv]
 rfl
theorem cU.length:∀ {l:List (AV × AV)} {es:List MapEntry},cU R w l es→l.length=es.length
 | [],[],_=>rfl
 | _ :: _,_ :: _,h=>by simp [cU.length h.2.2]
 | [],_ :: _,h=>h.elim
 | _ :: _,[],h=>h.elim
theorem E8 (h:aV E R w β s a) {args:Array Operand} {tys:List TypeId} (ho:o.op=.call { callee:=.builtin .len,args:=args,argTypes:=⟨tys⟩ }) {l:List AV} (hl:kQ E s.ae args.toList=some l) {s':St} (hs:bw E s o.dst .len l tys=some (true,s')) :
  bz E R w β s a o s':=by
 have hr:=ft h hl
 generalize hv:args.toList.map a.eval=vs at hr
 have hx:=dw (E:=E) (w:=w) ho vs hv
 unfold bw at hs
 split at hs <;> first | (rename_i h1; cases h1; done) | skip
 ·rename_i x
  cases hr with
  | cons h0 h1=>
  cases h1
  split at hs
  ·rename_i t tl
   split at hs
   ·rename_i i hi
    obtain ⟨gb,u,e1,e2,e3,e4,e5,e6⟩:=bG E hi
    split at hs
    ·rename_i bs hk
     cases hs
     cases h0
     rw [hk] at e5
     have:=jP e5
     subst this
     refine ap h (c:=.int .i64 bs.length) ?_ (Rel.int _ _)
     rw [hx]
     simp [builtin,Builtin.len_,run_underlying e2,goInt,size_bytes]
    ·rename_i kk sz es hk
     cases hs
     rw [hk] at e5
     obtain ⟨ie,ue,rfl,_⟩:=cW e5
     refine ap h (c:=.int .i64 es.length) ?_ (Rel.int _ _)
     rw [hx]
     cases h0 with
     | iF=>simp [builtin,Builtin.len_,run_underlying e2,goInt]
     | ib=>simp [builtin,Builtin.len_,run_underlying e2,goInt]
     | lT=>simp [builtin,Builtin.len_,run_underlying e2,goInt]
     | lU=>simp [builtin,Builtin.len_,run_underlying e2,goInt]
     | kT=>simp [builtin,Builtin.len_,run_underlying e2,goInt]
     | list _ hlen _ _=>subst hlen; simp [builtin,Builtin.len_,run_underlying e2,goInt]
    ·rename_i id off sz len cap hk
     cases hs
     rw [hk] at e5
     obtain ⟨ie,ue,rfl,_⟩:=cW e5
     refine ap h (c:=.int .i64 len) ?_ (Rel.int _ _)
     rw [hx]
     cases h0
     simp [builtin,Builtin.len_,run_underlying e2,goInt]
    ·rename_i id f' off sz len hk
     cases hs
     rw [hk] at e5
     obtain ⟨ie,ue,rfl,_⟩:=cW e5
     refine ap h (c:=.int .i64 len) ?_ (Rel.int _ _)
     rw [hx]
     cases h0 <;> simp [builtin,Builtin.len_,run_underlying e2,goInt]
    ·rename_i n esz ag hk
     cases hs
     rw [hk] at e5
     obtain ⟨e,ie,ue,rfl,_⟩:=mT e5
     refine ap h (c:=.int .i64 n) ?_ (Rel.int _ _)
     rw [hx]
     simp [builtin,Builtin.len_,run_underlying e2,goInt]
    ·rename_i hk
     cases hs
     rw [hk] at e5
     obtain ⟨rfl,_⟩:=lq e5
     refine ap h (c:=.int .i64 0) ?_ (Rel.int _ _)
     rw [hx]
     cases h0
     simp [builtin,Builtin.len_,run_underlying e2,goInt]
    ·rename_i id hk
     split at hs
     ·rename_i es hg
      cases hs
      rw [hk] at e5
      obtain ⟨rfl,_⟩:=lq e5
      cases h0 with
      | @map _ b hb=>
      obtain ⟨av,clock,g1,g2,g3⟩:=h.g.obj id _ _ hg hb
      refine ap h (c:=.int .i64 es.length) ?_ (Rel.int _ _)
      rw [hx]
      have gR:(getObj b).run E.P w=.ok (.map av clock) w:=by simp [getObj,Sem.run,g1]
      simp [builtin,Builtin.len_,run_underlying e2,goInt,gR,g2.length]
     ·cases hs
    ·cases hs
   ·cases hs
  ·cases hs
 ·cases hs
theorem CA {b:Bool}:∀ {l:List AV} {x v:AV} {c:Value} {cs:List Value},Rel R w x c→aE R w l cs→Dt x l=some v→∃ c',(cs.foldlM Builtin.max2 c).run E.P w=.ok c' w∧Rel R w v c'
 | [],x,v,c,cs,hr,hl,hv=>by
  cases hl
  simp only [Dt] at hv
  cases hv
  exact ⟨c,rfl,hr⟩
 | y :: l,x,v,c,cs,hr,hl,hv=>by
  cases hl with
  | cons hy hl=>
  unfold Dt at hv
  split at hv
  ·rename_i jH; cases jH
  ·rename_i k n k' m l' jH
   cases jH
   split at hv
   ·rename_i hk
    subst hk
    cases hr
    cases hy
    obtain ⟨c',h1,h2⟩:=CA (b:=b) (Rel.int k (if m > n then m else n)) hl hv
    refine ⟨c',?_,h2⟩
    simp only [List.foldlM_cons,Sem.run_bind,Builtin.max2,Sem.run_pure,Result.andThen_ok]
    exact h1
   ·cases hv
  ·cases hv
theorem xH {b:Bool}:∀ {l:List AV} {x v:AV} {c:Value} {cs:List Value},Rel R w x c→aE R w l cs→AT x l=some v→∃ c',(cs.foldlM Builtin.min2 c).run E.P w=.ok c' w∧Rel R w v c'
 | [],x,v,c,cs,hr,hl,hv=>by
  cases hl
  simp only [AT] at hv
  cases hv
  exact ⟨c,rfl,hr⟩
 | y :: l,x,v,c,cs,hr,hl,hv=>by
  cases hl with
  | cons hy hl=>
  unfold AT at hv
  split at hv
  ·rename_i jH; cases jH
  ·rename_i k n k' m l' jH
   cases jH
   split at hv
   ·rename_i hk
    subst hk
    cases hr
    cases hy
    obtain ⟨c',h1,h2⟩:=xH (b:=b) (Rel.int k (if m < n then m else n)) hl hv
    refine ⟨c',?_,h2⟩
    simp only [List.foldlM_cons,Sem.run_bind,Builtin.min2,Sem.run_pure,Result.andThen_ok]
    exact h1
   ·cases hv
  ·rename_i n m l' jH
   cases jH
   cases hr
   cases hy
   obtain ⟨c',h1,h2⟩:=xH (b:=b) (Rel.str (bif Op.bytesLess n m || n == m then n else m)) hl hv
   refine ⟨c',?_,h2⟩
   have e:(Builtin.min2 (.string ⟨⟨n⟩⟩) (.string ⟨⟨m⟩⟩)).run E.P w=.ok (.string ⟨⟨bif Op.bytesLess n m || n == m then n else m⟩⟩) w:=by
    simp only [Builtin.min2,Op.stringOp,Sem.run_bind,Sem.run_pure,Result.andThen_ok]
    show Result.andThen ((asBool _).run E.P w) _=_
    cases hb:(Op.bytesLess n m || n == m) <;> simp_all [asBool]
   simp only [List.foldlM_cons,Sem.run_bind,e,Result.andThen_ok]
   exact h1
  ·cases hv
theorem E9 (h:aV E R w β s a) {args:Array Operand} {tys:Array TypeId} (ho:o.op=.call { callee:=.builtin .max,args:=args,argTypes:=tys }) {x v:AV} {l:List AV} (hl:kQ E s.ae args.toList=some (x :: l)) (hm:Dt x l=some v) :
  bz E R w β s a o (s.put o.dst (.v v)):=by
 have hr:=ft h hl
 generalize hv:args.toList.map a.eval=vs at hr
 have hx:=dw (E:=E) (w:=w) ho vs hv
 cases hr with
 | cons h0 h1=>
 obtain ⟨c',k1,k2⟩:=CA (E:=E) (b:=true) h0 h1 hm
 refine ap h (c:=c') ?_ k2
 rw [hx]
 simp [builtin,Builtin.max_,k1]
theorem Fa (h:aV E R w β s a) {args:Array Operand} {tys:Array TypeId} (ho:o.op=.call { callee:=.builtin .min,args:=args,argTypes:=tys }) {x v:AV} {l:List AV} (hl:kQ E s.ae args.toList=some (x :: l)) (hm:AT x l=some v) :
  bz E R w β s a o (s.put o.dst (.v v)):=by
 have hr:=ft h hl
 generalize hv:args.toList.map a.eval=vs at hr
 have hx:=dw (E:=E) (w:=w) ho vs hv
 cases hr with
 | cons h0 h1=>
 obtain ⟨c',k1,k2⟩:=xH (E:=E) (b:=true) h0 h1 hm
 refine ap h (c:=c') ?_ k2
 rw [hx]
 simp [builtin,Builtin.min_,k1]
end ops
end Go.Am
namespace Go.Am
open Go
section ops
variable {E:Env} {R:aj} {w:World} {β:Nat→Nat} {s:St} {a:Act} {o:Oper}
def aj.upto (R:aj) (g n:Nat) (obj:List RO):aj:=⟨fun b o=>R.I b o∨(b=g∧o < n),obj⟩
theorem az {l:List RO} {id i:Nat} {x r y:RO} (Va:nth l id=some y) (h:nth (ax l id x) i=some r):(i=id∧r=x)∨(i≠id∧nth l i=some r):=by
 rcases cP h with ⟨rfl,rfl,_⟩ | ⟨cq,h⟩
 ·exact .inl ⟨rfl,rfl⟩
 ·exact .inr ⟨Ne.symm cq,h⟩
theorem A9 (wf:∀ b o,R.I b o→b < w.heap.size) (x:Obj) (n:Nat) (ro:RO):Ext R w (R.upto w.heap.size n (R.obj++[ro])) (w.drew.alloc x):=
 ⟨fun _ _ h=>.inl h,fun b o h=>bQ (heap_alloc_old w.drew x b (wf b o h)) o,fun _ r h=>⟨r,cQ h,bZ.refl r⟩,.old fun b hb=>heap_alloc_old w.drew x b hb⟩
theorem Ba (wf:∀ b o,R.I b o→b < w.heap.size) (x:Obj) {n id m:Nat} {r0:RO} (bE:nth R.obj id=some r0) (b' c':Nat) (bK:bZ r0 (.tok m b' c')):Ext R w (R.upto w.heap.size n (ax R.obj id (.tok m b' c'))) (w.drew.alloc x):=
 ⟨fun _ _ h=>.inl h,fun b o h=>bQ (heap_alloc_old w.drew x b (wf b o h)) o,fun i r h=>by
  by_cases e:id=i
  ·subst e
   rw [bE] at h
   cases h
   exact ⟨_,aB bE,bK⟩
  ·exact ⟨r,by rw [aj.upto,bn e]; exact h,bZ.refl r⟩,.old fun b hb=>heap_alloc_old w.drew x b hb⟩
theorem aV.K4 (h:aV E R w β s a) {cur:Array Value} {elem:TypeId} {n sz cap:Nat} (hn:n≤cap) (hm:cap≤maxLen) (hs:cur.size=cap * sz) :
  aV E (R.upto w.heap.size (n * sz) (R.obj++[.tok n w.heap.size cap])) (w.drew.alloc (.cells cur elem)) β (s.dA (.tok n sz elem)) a ∧
  Step R w β s.boxes (R.upto w.heap.size (n * sz) (R.obj++[.tok n w.heap.size cap])) (w.drew.alloc (.cells cur elem)) β s.boxes:=by
 have e:=A9 (R:=R) (w:=w) h.g.wf (.cells cur elem) (n * sz) (.tok n w.heap.size cap)
 have old:∀ b,b < w.heap.size→(w.drew.alloc (.cells cur elem)).heap[b]?=w.heap[b]?:=fun b hb=>heap_alloc_old w.drew _ b hb
 have new:(w.drew.alloc (.cells cur elem)).heap[w.heap.size]?=some (.cells cur elem (0,0)):=heap_alloc_new w.drew _
 have hI:∀ b o,b < w.heap.size→(R.upto w.heap.size (n * sz) (R.obj++[.tok n w.heap.size cap])).I b o→R.I b o:=fun b o hb hi=>by
  rcases hi with hi | ⟨hi,_⟩
  ·exact hi
  ·omega
 refine ⟨⟨⟨by simp [St.dA,aj.upto,h.g.len],fun id g r h1 h2=>?_,fun i j ri rj b h1 h2 b1 b2=>?_,fun b o hi=>?_,fun g cs hg=>(h.g.dD g cs hg).mono e,by first | exact h.g.lo | exact Nat.le_succ_of_le h.g.lo⟩,?_,h.t.mono e,h.n,h.d.mono e⟩,?_⟩
 ·rcases au h2 with h2 | ⟨h3,rfl⟩
  ·have bK:=bp h2
   rw [h.g.len] at bK
   rcases au h1 with h1 | ⟨h4,_⟩
   ·exact (h.g.obj id g r h1 h2).mono e (fun b hb=>old b (h.g.bU ⟨id,r,h2,hb⟩)) (fun b o hb=>hI b o (h.g.bU ⟨id,r,h2,hb⟩))
   ·omega
  ·rcases au h1 with h1 | ⟨h4,rfl⟩
   ·have:=bp h1
    rw [h3,h.g.len] at this
    omega
   ·refine ⟨rfl,cur,new,hn,hm,hs,fun o' pz hi=>?_⟩
    rcases hi with hi | ⟨_,hi⟩
    ·have:=h.g.wf _ _ hi
     omega
    ·omega
 ·rcases au h1 with g1 | ⟨h3,e1⟩
  ·rcases au h2 with g2 | ⟨h4,e2⟩
   ·exact h.g.inj i j ri rj b g1 g2 b1 b2
   ·have:=h.g.bU ⟨i,ri,g1,b1⟩
    rw [e2] at b2
    simp [RO.has] at b2
    omega
  ·rcases au h2 with g2 | ⟨h4,e2⟩
   ·have:=h.g.bU ⟨j,rj,g2,b2⟩
    rw [e1] at b1
    simp [RO.has] at b1
    omega
   ·omega
 ·rcases hi with hi | ⟨rfl,_⟩
  ·have:=h.g.wf b o hi
   simp
   omega
  ·simp
 ·refine h.b.aW e (fun k cs hk=>old _ (h.dL (.inr ⟨k,cs,hk,rfl⟩))) (fun k cs o hk=>hI _ o (h.dL (.inr ⟨k,cs,hk,rfl⟩))) (fun k cs hk hl=>?_)
  rcases ln (R:=R) (ro:=.tok n w.heap.size cap) hl with hl | hl
  ·exact hl
  ·have:=h.dL (.inr ⟨k,cs,hk,rfl⟩)
   simp [RO.has] at hl
   omega
 ·refine ⟨e,rfl,rfl,rfl,by simp,fun b hb _=>old b hb,fun b hb ho=>?_,fun b o hi hb _=>hI b o hb hi⟩
  rcases ho with ho | ho
  ·rcases ln (R:=R) (ro:=.tok n w.heap.size cap) ho with ho | ho
   ·exact .inl ho
   ·simp [RO.has] at ho
    omega
  ·exact .inr ho
theorem zf (wf:∀ b o,R.I b o→b < w.heap.size) (x:Obj) (n:Nat) (ro:RO):Ext R w (R.upto w.heap.size n (R.obj++[ro])) (w.alloc x):=
 ⟨fun _ _ h=>.inl h,fun b o h=>bQ (heap_alloc_old w x b (wf b o h)) o,fun _ r h=>⟨r,cQ h,bZ.refl r⟩,.old fun b hb=>heap_alloc_old w x b hb⟩
theorem aV.HQ (h:aV E R w β s a) {cur:Array Value} {elem:TypeId} {n sz cap:Nat} (hn:n≤cap) (hm:cap≤maxLen) (hs:cur.size=cap * sz) :
  aV E (R.upto w.heap.size (n * sz) (R.obj++[.tok n w.heap.size cap])) (w.alloc (.cells cur elem)) β (s.dA (.tok n sz elem)) a ∧
  Step R w β s.boxes (R.upto w.heap.size (n * sz) (R.obj++[.tok n w.heap.size cap])) (w.alloc (.cells cur elem)) β s.boxes:=by
 have e:=zf (R:=R) (w:=w) h.g.wf (.cells cur elem) (n * sz) (.tok n w.heap.size cap)
 have old:∀ b,b < w.heap.size→(w.alloc (.cells cur elem)).heap[b]?=w.heap[b]?:=fun b hb=>heap_alloc_old w _ b hb
 have new:(w.alloc (.cells cur elem)).heap[w.heap.size]?=some (.cells cur elem (0,0)):=heap_alloc_new w _
 have hI:∀ b o,b < w.heap.size→(R.upto w.heap.size (n * sz) (R.obj++[.tok n w.heap.size cap])).I b o→R.I b o:=fun b o hb hi=>by
  rcases hi with hi | ⟨hi,_⟩
  ·exact hi
  ·omega
 refine ⟨⟨⟨by simp [St.dA,aj.upto,h.g.len],fun id g r h1 h2=>?_,fun i j ri rj b h1 h2 b1 b2=>?_,fun b o hi=>?_,fun g cs hg=>(h.g.dD g cs hg).mono e,by first | exact h.g.lo | exact Nat.le_succ_of_le h.g.lo⟩,?_,h.t.mono e,h.n,h.d.mono e⟩,?_⟩
 ·rcases au h2 with h2 | ⟨h3,rfl⟩
  ·have bK:=bp h2
   rw [h.g.len] at bK
   rcases au h1 with h1 | ⟨h4,_⟩
   ·exact (h.g.obj id g r h1 h2).mono e (fun b hb=>old b (h.g.bU ⟨id,r,h2,hb⟩)) (fun b o hb=>hI b o (h.g.bU ⟨id,r,h2,hb⟩))
   ·omega
  ·rcases au h1 with h1 | ⟨h4,rfl⟩
   ·have:=bp h1
    rw [h3,h.g.len] at this
    omega
   ·refine ⟨rfl,cur,new,hn,hm,hs,fun o' pz hi=>?_⟩
    rcases hi with hi | ⟨_,hi⟩
    ·have:=h.g.wf _ _ hi
     omega
    ·omega
 ·rcases au h1 with g1 | ⟨h3,e1⟩
  ·rcases au h2 with g2 | ⟨h4,e2⟩
   ·exact h.g.inj i j ri rj b g1 g2 b1 b2
   ·have:=h.g.bU ⟨i,ri,g1,b1⟩
    rw [e2] at b2
    simp [RO.has] at b2
    omega
  ·rcases au h2 with g2 | ⟨h4,e2⟩
   ·have:=h.g.bU ⟨j,rj,g2,b2⟩
    rw [e1] at b1
    simp [RO.has] at b1
    omega
   ·omega
 ·rcases hi with hi | ⟨rfl,_⟩
  ·have:=h.g.wf b o hi
   simp
   omega
  ·simp
 ·refine h.b.aW e (fun k cs hk=>old _ (h.dL (.inr ⟨k,cs,hk,rfl⟩))) (fun k cs o hk=>hI _ o (h.dL (.inr ⟨k,cs,hk,rfl⟩))) (fun k cs hk hl=>?_)
  rcases ln (R:=R) (ro:=.tok n w.heap.size cap) hl with hl | hl
  ·exact hl
  ·have:=h.dL (.inr ⟨k,cs,hk,rfl⟩)
   simp [RO.has] at hl
   omega
 ·refine ⟨e,rfl,rfl,rfl,by simp,fun b hb _=>old b hb,fun b hb ho=>?_,fun b o hi hb _=>hI b o hb hi⟩
  rcases ho with ho | ho
  ·rcases ln (R:=R) (ro:=.tok n w.heap.size cap) ho with ho | ho
   ·exact .inl ho
   ·simp [RO.has] at ho
    omega
  ·exact .inr ho
theorem qZ (h:aV E R w β s a) (t:TypeId) (len:Nat) (parts:Array (Nat × Operand)) (ho:o.op=.buildSlice t len parts) {k:LK} {esz:Nat} {es:List AV} (hv:bH E s t len parts.toList=some (.list k esz es)) {i:TI} (hi:E.ti t=some i) {elem bl mU:Nat} {ag:Bool} {z:Option AV} (hk:i.k=.sl elem bl ag mU z) (hm:len≤65536) :
  bz E R w β s a o ((s.dA (.tok len esz elem)).put o.dst (.v (.list (.own s.G.length) esz es))):=by
 obtain ⟨es',K0,us,OF,OC,bf,g2,hlen,u2,u3,i',Rj,NL,z',oB,iY⟩:=gU h t len parts ho hv
 cases OC
 rw [hi] at oB
 cases oB
 rw [hk] at iY
 cases iY
 have OG:us.length=len * esz:=by rw [← u2.length,cu g2,hlen]
 obtain ⟨r1,r2⟩:=h.HQ (cur:=⟨us⟩) (elem:=elem) (n:=len) (sz:=esz) (cap:=len) (Nat.le_refl _) (by simp [maxLen]; omega) (by simpa using OG)
 refine ⟨_,.slice (some ⟨w.heap.size,0,none⟩) len len,_,_,β,bf,.inl rfl,r1.put o.dst (x:=.v (.list (.own s.G.length) esz es)) ?_,by rw [aP]; exact r2⟩
 refine Rel.list (ls g2 (eu.make (u2.mono r2.ext) u3 (fun j x hx=>?_) (fun j hj=>.inr ⟨rfl,?_⟩))) hlen.symm (Nat.le_refl _) ⟨.tok len w.heap.size len,fq h _,?_⟩
 ·rw [iH (heap_alloc_new w _)]
  simpa using hx
 ·rw [cu g2,hlen] at hj
  omega
 ·exact ⟨Nat.le_refl _,fun _=>⟨rfl,rfl,rfl⟩⟩
theorem aV.Fb (h:aV E R w β s a) {cur:Array Value} {elem e0:TypeId} {n sz cap id f:Nat} {r0:RO} (hg:nth s.G id=some (.tok f sz e0)) (bE:nth R.obj id=some r0) (hf:∀ b c,bZ r0 (.tok n b c)) (hn:n≤cap) (hm:cap≤maxLen) (hs:cur.size=cap * sz) :
  aV E (R.upto w.heap.size (n * sz) (ax R.obj id (.tok n w.heap.size cap))) (w.drew.alloc (.cells cur elem)) β (s.bF (ax s.G id (.tok n sz elem))) a ∧
  Step R w β s.boxes (R.upto w.heap.size (n * sz) (ax R.obj id (.tok n w.heap.size cap))) (w.drew.alloc (.cells cur elem)) β s.boxes:=by
 have e:=Ba (R:=R) (w:=w) (n:=n * sz) h.g.wf (.cells cur elem) bE w.heap.size cap (hf _ _)
 have old:∀ b,b < w.heap.size→(w.drew.alloc (.cells cur elem)).heap[b]?=w.heap[b]?:=fun b hb=>heap_alloc_old w.drew _ b hb
 have new:(w.drew.alloc (.cells cur elem)).heap[w.heap.size]?=some (.cells cur elem (0,0)):=heap_alloc_new w.drew _
 have hI:∀ b o,b < w.heap.size→(R.upto w.heap.size (n * sz) (ax R.obj id (.tok n w.heap.size cap))).I b o→R.I b o:=fun b o hb hi=>by
  rcases hi with hi | ⟨hi,_⟩
  ·exact hi
  ·omega
 have live:∀ b,b < w.heap.size→Live (R.upto w.heap.size (n * sz) (ax R.obj id (.tok n w.heap.size cap))) b→Live R b:=fun b hb hl=>by
  obtain ⟨i,r,h1,h2⟩:=hl
  rcases az bE h1 with ⟨_,rfl⟩ | ⟨_,h1⟩
  ·simp [RO.has] at h2
   omega
  ·exact ⟨i,r,h1,h2⟩
 refine ⟨⟨⟨by simp [St.bF,aj.upto,h.g.len],fun i gg r h1 h2=>?_,fun i j ri rj b h1 h2 b1 b2=>?_,fun b o hi=>?_,fun g cs hg=>(h.g.dD g cs hg).mono e,by first | exact h.g.lo | exact Nat.le_succ_of_le h.g.lo⟩,?_,h.t.mono e,h.n,h.d.mono e⟩,?_⟩
 ·rcases az bE h2 with ⟨rfl,rfl⟩ | ⟨cq,h2⟩
  ·simp only [St.bF] at h1
   rw [aB hg] at h1
   cases h1
   refine ⟨rfl,cur,new,hn,hm,hs,fun o' pz hi=>?_⟩
   rcases hi with hi | ⟨_,hi⟩
   ·have:=h.g.wf _ _ hi
    omega
   ·omega
  ·simp only [St.bF] at h1
   rw [bn (Ne.symm cq)] at h1
   exact (h.g.obj i gg r h1 h2).mono e (fun b hb=>old b (h.g.bU ⟨i,r,h2,hb⟩)) (fun b o hb=>hI b o (h.g.bU ⟨i,r,h2,hb⟩))
 ·rcases az bE h1 with ⟨g3,e1⟩ | ⟨g3,g1⟩
  ·rcases az bE h2 with ⟨g4,e2⟩ | ⟨g4,g2⟩
   ·omega
   ·have:=h.g.bU ⟨j,rj,g2,b2⟩
    rw [e1] at b1
    simp [RO.has] at b1
    omega
  ·rcases az bE h2 with ⟨g4,e2⟩ | ⟨g4,g2⟩
   ·have:=h.g.bU ⟨i,ri,g1,b1⟩
    rw [e2] at b2
    simp [RO.has] at b2
    omega
   ·exact h.g.inj i j ri rj b g1 g2 b1 b2
 ·rcases hi with hi | ⟨rfl,_⟩
  ·have:=h.g.wf b o hi
   simp
   omega
  ·simp
 ·exact h.b.aW e (fun k cs hk=>old _ (h.dL (.inr ⟨k,cs,hk,rfl⟩))) (fun k cs o hk=>hI _ o (h.dL (.inr ⟨k,cs,hk,rfl⟩))) (fun k cs hk hl=>live _ (h.dL (.inr ⟨k,cs,hk,rfl⟩)) hl)
 ·refine ⟨e,rfl,rfl,rfl,by simp,fun b hb _=>old b hb,fun b hb ho=>?_,fun b o hi hb _=>hI b o hb hi⟩
  rcases ho with ho | ho
  ·exact .inl (live b hb ho)
  ·exact .inr ho
theorem aV.HR (h:aV E R w β s a) {cur:Array Value} {news:List Value} {elem:TypeId} {n sz id f g c:Nat} (hg:nth s.G id=some (.tok f sz elem)) (bE:nth R.obj id=some (.tok f g c)) (hf:f < n) (hn:n≤c)
  (iZ:w.heap[g]?=some (.cells cur elem (0,0))) (hs:cur.size=c * sz) (hm:c≤maxLen) (hl:f * sz+news.length=n * sz) :
  Ext R w (R.upto g (n * sz) (ax R.obj id (.tok n g c))) (w.setRow g (cur.toList.take (f * sz)++news++cur.toList.drop (f * sz+news.length)).toArray) ∧
  aV E (R.upto g (n * sz) (ax R.obj id (.tok n g c))) (w.setRow g (cur.toList.take (f * sz)++news++cur.toList.drop (f * sz+news.length)).toArray) β (s.bF (ax s.G id (.tok n sz elem))) a ∧
  Step R w β s.boxes (R.upto g (n * sz) (ax R.obj id (.tok n g c))) (w.setRow g (cur.toList.take (f * sz)++news++cur.toList.drop (f * sz+news.length)).toArray) β s.boxes:=by
 obtain ⟨_,zg,JL,_,_,_,jR⟩:=h.g.obj id _ _ hg bE
 rw [iZ] at JL
 cases JL
 have hle:n * sz≤c * sz:=Nat.mul_le_mul_right _ hn
 generalize sE:(cur.toList.take (f * sz)++news++cur.toList.drop (f * sz+news.length)).toArray=cur2
 have old:∀ b,b≠g→(w.setRow g cur2).heap[b]?=w.heap[b]?:=fun b hb=>setRow_other w g b cur2 hb
 have new:(w.setRow g cur2).heap[g]?=some (.cells cur2 elem (0,0)):=setRow_heap w g cur cur2 elem (0,0) iZ
 have hlen:f * sz≤cur.toList.length:=by simp; omega
 have eC:cur2.size=c * sz:=by
  rw [← sE]
  simp
  omega
 have sF:Live R g:=⟨id,_,bE,rfl⟩
 have e:Ext R w (R.upto g (n * sz) (ax R.obj id (.tok n g c))) (w.setRow g cur2):=by
  refine ⟨fun _ _ hi=>.inl hi,fun b o hi=>?_,fun i r hr=>?_,fun b r hb=>⟨r,(old b fun e=>by subst e; rw [iZ] at hb; cases hb).trans hb,rfl,rfl,rfl,rfl,rfl⟩⟩
  ·by_cases hb:b=g
   ·subst hb
    have ho:o < f * sz:=Nat.lt_of_not_le fun hle=>jR o hle hi
    simp only [World.cell?,new,iZ]
    have:cur2[o]?=cur[o]?:=by
     rw [← sE,List.append_assoc]
     simp only [List.getElem?_toArray]
     rw [List.getElem?_append_left (by simp; omega),List.getElem?_take,if_pos ho,Array.getElem?_toList]
    simp [this]
   ·exact bQ (old b hb) o
  ·by_cases ei:id=i
   ·subst ei
    rw [bE] at hr
    cases hr
    exact ⟨_,aB bE,by omega,fun e=>by omega⟩
   ·exact ⟨r,by rw [aj.upto,bn ei]; exact hr,bZ.refl r⟩
 have hI:∀ b o,b≠g→(R.upto g (n * sz) (ax R.obj id (.tok n g c))).I b o→R.I b o:=fun b o hb hi=>by
  rcases hi with hi | ⟨hi,_⟩
  ·exact hi
  ·exact absurd hi hb
 have live:∀ b,Live (R.upto g (n * sz) (ax R.obj id (.tok n g c))) b→Live R b:=fun b hl=>by
  obtain ⟨i,r,h1,h2⟩:=hl
  rcases az bE h1 with ⟨_,rfl⟩ | ⟨_,h1⟩
  ·exact ⟨id,_,bE,h2⟩
  ·exact ⟨i,r,h1,h2⟩
 have oY:∀ k cs,de s.boxes k=some cs→β k≠g:=fun k cs hk eq=>(h.b.box k cs hk).2.2 (eq ▸ sF)
 refine ⟨e,⟨⟨by simp [St.bF,aj.upto,h.g.len],fun i gg r h1 h2=>?_,fun i j ri rj b h1 h2 b1 b2=>?_,fun b o hi=>?_,fun g cs hg=>(h.g.dD g cs hg).mono e,by first | exact h.g.lo | exact Nat.le_succ_of_le h.g.lo⟩,?_,h.t.mono e,h.n,h.d.mono e⟩,?_⟩
 ·rcases az bE h2 with ⟨rfl,rfl⟩ | ⟨cq,h2⟩
  ·simp only [St.bF] at h1
   rw [aB hg] at h1
   cases h1
   refine ⟨rfl,cur2,new,hn,hm,eC,fun o' pz hi=>?_⟩
   rcases hi with hi | ⟨_,hi⟩
   ·exact jR o' (Nat.le_trans (Nat.mul_le_mul_right _ (Nat.le_of_lt hf)) pz) hi
   ·omega
  ·simp only [St.bF] at h1
   rw [bn (Ne.symm cq)] at h1
   have K5:∀ b,r.has b→b≠g:=fun b hb eq=>cq (h.g.inj i id _ _ b h2 bE hb (by rw [eq]; rfl))
   exact (h.g.obj i gg r h1 h2).mono e (fun b hb=>old b (K5 b hb)) (fun b o hb=>hI b o (K5 b hb))
 ·rcases az bE h1 with ⟨g3,e1⟩ | ⟨g3,g1⟩
  ·rcases az bE h2 with ⟨g4,e2⟩ | ⟨g4,g2⟩
   ·omega
   ·rw [e1] at b1
    exact g3.trans (h.g.inj id j _ _ b bE g2 b1 b2)
  ·rcases az bE h2 with ⟨g4,e2⟩ | ⟨g4,g2⟩
   ·rw [e2] at b2
    exact (h.g.inj i id _ _ b g1 bE b1 b2).trans g4.symm
   ·exact h.g.inj i j ri rj b g1 g2 b1 b2
 ·rcases hi with hi | ⟨rfl,_⟩
  ·have:=h.g.wf b o hi
   simpa using this
  ·have:=aY iZ
   simpa using this
 ·exact h.b.aW e (fun k cs hk=>old _ (oY k cs hk)) (fun k cs o hk=>hI _ o (oY k cs hk)) (fun k cs hk hl=>live _ hl)
 ·refine ⟨e,rfl,rfl,rfl,by simp,fun b hb q8=>old b (fun eq=>q8 (.inl (eq ▸ sF))),fun b hb ho=>?_,fun b o hi hb q8=>hI b o (fun eq=>q8 (.inl (eq ▸ sF))) hi⟩
  rcases ho with ho | ho
  ·exact .inl (live b ho)
  ·exact .inr ho
structure One (w w':World) (x:Obj):Prop where
 old:∀ b,b < w.heap.size→w'.heap[b]?=w.heap[b]?
 new:w'.heap[w.heap.size]?=some x
 size:w'.heap.size=w.heap.size+1
 os:w'.os=w.os
 tape:w'.tape=w.tape
 output:w'.output=w.output
 drawn:w.drawn≤w'.drawn
theorem One.alloc (w:World) (x:Obj):One w (w.alloc x) x:=⟨fun b hb=>heap_alloc_old w x b hb,heap_alloc_new w x,by simp,rfl,rfl,rfl,Nat.le_refl _⟩
theorem One.drew (w:World) (x:Obj):One w (w.drew.alloc x) x:=⟨fun b hb=>heap_alloc_old w.drew x b hb,heap_alloc_new w.drew x,by simp,rfl,rfl,rfl,Nat.le_succ _⟩
theorem HS {w':World} {x:Obj} (o1:One w w' x) (wf:∀ b o,R.I b o→b < w.heap.size) {n id:Nat} {r0 r1:RO} (bE:nth R.obj id=some r0) (hle:bZ r0 r1):Ext R w (R.upto w.heap.size n (ax R.obj id r1)) w':=
 ⟨fun _ _ h=>.inl h,fun b o h=>bQ (o1.old b (wf b o h)) o,fun i r h=>by
  by_cases e:id=i
  ·subst e
   rw [bE] at h
   cases h
   exact ⟨_,aB bE,hle⟩
  ·exact ⟨r,by rw [aj.upto,bn e]; exact h,bZ.refl r⟩,.old fun b hb=>o1.old b hb⟩
theorem aV.K6 (h:aV E R w β s a) {w':World} {x:Obj} (o1:One w w' x) {n id:Nat} {r0 r1:RO} {EH go:GO} (hg:nth s.G id=some EH) (bE:nth R.obj id=some r0) (hle:bZ r0 r1) (tM:∀ b,r1.has b→b=w.heap.size∨r0.has b)
  (gR:fZ (R.upto w.heap.size n (ax R.obj id r1)) w' go r1) :
  aV E (R.upto w.heap.size n (ax R.obj id r1)) w' β (s.bF (ax s.G id go)) a∧Step R w β s.boxes (R.upto w.heap.size n (ax R.obj id r1)) w' β s.boxes:=by
 have e:=HS (R:=R) (n:=n) o1 h.g.wf bE hle
 have hI:∀ b o,b < w.heap.size→(R.upto w.heap.size n (ax R.obj id r1)).I b o→R.I b o:=fun b o hb hi=>by
  rcases hi with hi | ⟨hi,_⟩
  ·exact hi
  ·omega
 have live:∀ b,b < w.heap.size→Live (R.upto w.heap.size n (ax R.obj id r1)) b→Live R b:=fun b hb hl=>by
  obtain ⟨i,r,h1,h2⟩:=hl
  rcases az bE h1 with ⟨_,rfl⟩ | ⟨_,h1⟩
  ·rcases tM b h2 with h3 | h3
   ·omega
   ·exact ⟨id,r0,bE,h3⟩
  ·exact ⟨i,r,h1,h2⟩
 refine ⟨⟨⟨by simp [St.bF,aj.upto,h.g.len],fun i gg r h1 h2=>?_,fun i j ri rj b h1 h2 b1 b2=>?_,fun b o hi=>?_,fun g cs hg=>(h.g.dD g cs hg).mono e,Nat.le_trans h.g.lo o1.drawn⟩,?_,h.t.mono e,h.n,h.d.mono e⟩,?_⟩
 ·rcases az bE h2 with ⟨rfl,rfl⟩ | ⟨cq,h2⟩
  ·simp only [St.bF] at h1
   rw [aB hg] at h1
   cases h1
   exact gR
  ·simp only [St.bF] at h1
   rw [bn (Ne.symm cq)] at h1
   exact (h.g.obj i gg r h1 h2).mono e (fun b hb=>o1.old b (h.g.bU ⟨i,r,h2,hb⟩)) (fun b o hb=>hI b o (h.g.bU ⟨i,r,h2,hb⟩))
 ·rcases az bE h1 with ⟨g3,e1⟩ | ⟨g3,g1⟩
  ·rcases az bE h2 with ⟨g4,e2⟩ | ⟨g4,g2⟩
   ·omega
   ·rw [e1] at b1
    rcases tM b b1 with b3 | b3
    ·have:=h.g.bU ⟨j,rj,g2,b2⟩
     omega
    ·exact g3.trans (h.g.inj id j _ _ b bE g2 b3 b2)
  ·rcases az bE h2 with ⟨g4,e2⟩ | ⟨g4,g2⟩
   ·rw [e2] at b2
    rcases tM b b2 with b3 | b3
    ·have:=h.g.bU ⟨i,ri,g1,b1⟩
     omega
    ·exact (h.g.inj i id _ _ b g1 bE b1 b3).trans g4.symm
   ·exact h.g.inj i j ri rj b g1 g2 b1 b2
 ·rcases hi with hi | ⟨rfl,_⟩
  ·have:=h.g.wf b o hi
   rw [o1.size]
   omega
  ·rw [o1.size]; omega
 ·exact h.b.aW e (fun k cs hk=>o1.old _ (h.dL (.inr ⟨k,cs,hk,rfl⟩))) (fun k cs o hk=>hI _ o (h.dL (.inr ⟨k,cs,hk,rfl⟩))) (fun k cs hk hl=>live _ (h.dL (.inr ⟨k,cs,hk,rfl⟩)) hl)
 ·refine ⟨e,o1.os,o1.tape,o1.output,by rw [o1.size]; omega,fun b hb _=>o1.old b hb,fun b hb ho=>?_,fun b o hi hb _=>hI b o hb hi⟩
  rcases ho with ho | ho
  ·exact .inl (live b hb ho)
  ·exact .inr ho
theorem aV.HT (h:aV E R w β s a) {cur cur2:Array Value} {elem:TypeId} {n id g:Nat} {r0 r1:RO} {EH go:GO} (hg:nth s.G id=some EH) (bE:nth R.obj id=some r0) (NN:r0.has g) (hle:bZ r0 r1) (tM:∀ b,r1.has b→r0.has b)
  (iZ:w.heap[g]?=some (.cells cur elem (0,0))) (tN:∀ o,R.I g o→cur2[o]?=cur[o]?)
  (gR:Ext R w (R.upto g n (ax R.obj id r1)) (w.setRow g cur2)→fZ (R.upto g n (ax R.obj id r1)) (w.setRow g cur2) go r1) :
  Ext R w (R.upto g n (ax R.obj id r1)) (w.setRow g cur2)∧aV E (R.upto g n (ax R.obj id r1)) (w.setRow g cur2) β (s.bF (ax s.G id go)) a∧Step R w β s.boxes (R.upto g n (ax R.obj id r1)) (w.setRow g cur2) β s.boxes:=by
 have old:∀ b,b≠g→(w.setRow g cur2).heap[b]?=w.heap[b]?:=fun b hb=>setRow_other w g b cur2 hb
 have new:(w.setRow g cur2).heap[g]?=some (.cells cur2 elem (0,0)):=setRow_heap w g cur cur2 elem (0,0) iZ
 have sF:Live R g:=⟨id,_,bE,NN⟩
 have e:Ext R w (R.upto g n (ax R.obj id r1)) (w.setRow g cur2):=by
  refine ⟨fun _ _ hi=>.inl hi,fun b o hi=>?_,fun i r hr=>?_,fun b r hb=>⟨r,(old b fun e=>by subst e; rw [iZ] at hb; cases hb).trans hb,rfl,rfl,rfl,rfl,rfl⟩⟩
  ·by_cases hb:b=g
   ·subst hb
    simp only [World.cell?,new,iZ,tN o hi]
   ·exact bQ (old b hb) o
  ·by_cases ei:id=i
   ·subst ei
    rw [bE] at hr
    cases hr
    exact ⟨_,aB bE,hle⟩
   ·exact ⟨r,by rw [aj.upto,bn ei]; exact hr,bZ.refl r⟩
 have hI:∀ b o,b≠g→(R.upto g n (ax R.obj id r1)).I b o→R.I b o:=fun b o hb hi=>by
  rcases hi with hi | ⟨hi,_⟩
  ·exact hi
  ·exact absurd hi hb
 have live:∀ b,Live (R.upto g n (ax R.obj id r1)) b→Live R b:=fun b hl=>by
  obtain ⟨i,r,h1,h2⟩:=hl
  rcases az bE h1 with ⟨_,rfl⟩ | ⟨_,h1⟩
  ·exact ⟨id,_,bE,tM b h2⟩
  ·exact ⟨i,r,h1,h2⟩
 have oY:∀ k cs,de s.boxes k=some cs→β k≠g:=fun k cs hk eq=>(h.b.box k cs hk).2.2 (eq ▸ sF)
 refine ⟨e,⟨⟨by simp [St.bF,aj.upto,h.g.len],fun i gg r h1 h2=>?_,fun i j ri rj b h1 h2 b1 b2=>?_,fun b o hi=>?_,fun g cs hg=>(h.g.dD g cs hg).mono e,h.g.lo⟩,?_,h.t.mono e,h.n,h.d.mono e⟩,?_⟩
 ·rcases az bE h2 with ⟨rfl,rfl⟩ | ⟨cq,h2⟩
  ·simp only [St.bF] at h1
   rw [aB hg] at h1
   cases h1
   exact gR e
  ·simp only [St.bF] at h1
   rw [bn (Ne.symm cq)] at h1
   have K5:∀ b,r.has b→b≠g:=fun b hb eq=>cq (h.g.inj i id _ _ b h2 bE hb (by rw [eq]; exact NN))
   exact (h.g.obj i gg r h1 h2).mono e (fun b hb=>old b (K5 b hb)) (fun b o hb=>hI b o (K5 b hb))
 ·rcases az bE h1 with ⟨g3,e1⟩ | ⟨g3,g1⟩
  ·rcases az bE h2 with ⟨g4,e2⟩ | ⟨g4,g2⟩
   ·omega
   ·rw [e1] at b1
    exact g3.trans (h.g.inj id j _ _ b bE g2 (tM b b1) b2)
  ·rcases az bE h2 with ⟨g4,e2⟩ | ⟨g4,g2⟩
   ·rw [e2] at b2
    exact (h.g.inj i id _ _ b g1 bE b1 (tM b b2)).trans g4.symm
   ·exact h.g.inj i j ri rj b g1 g2 b1 b2
 ·rcases hi with hi | ⟨rfl,_⟩
  ·have:=h.g.wf b o hi
   simpa using this
  ·have:=aY iZ
   simpa using this
 ·exact h.b.aW e (fun k cs hk=>old _ (oY k cs hk)) (fun k cs o hk=>hI _ o (oY k cs hk)) (fun k cs hk hl=>live _ hl)
 ·refine ⟨e,rfl,rfl,rfl,by simp,fun b hb q8=>old b (fun eq=>q8 (.inl (eq ▸ sF))),fun b hb ho=>?_,fun b o hi hb q8=>hI b o (fun eq=>q8 (.inl (eq ▸ sF))) hi⟩
  rcases ho with ho | ho
  ·exact .inl (live b ho)
  ·exact .inr ho
theorem qS.set {ts:List TR} {j:Nat} {t t':TR} (ht:nth ts j=some t) (hle:kU t t'):qS ts (ax ts j t'):=fun i u hu=>by
 by_cases e:j=i
 ·subst e
  rw [ht] at hu
  cases hu
  exact ⟨t',aB ht,hle⟩
 ·exact ⟨u,by rw [bn e]; exact hu,kU.refl u⟩
theorem CB {ts:List TR} {j n g c b:Nat} (h:RO.has (.aU (ax ts j (.tok n g c))) b):b=g∨RO.has (.aU ts) b:=by
 obtain ⟨i,f,c',hi⟩:=h
 rcases cP hi with ⟨_,e,_⟩ | ⟨_,hi⟩
 ·cases e; exact .inl rfl
 ·exact .inr ⟨i,f,c',hi⟩
theorem wh.of {R':aj} {w':World} {sz f:Nat} {e:TypeId} {t:TR} (h:wh R w sz e f t) (hold:∀ f b c,t=.tok f b c→w'.heap[b]?=w.heap[b]?∧∀ o,R'.I b o→R.I b o):wh R' w' sz e f t:=by
 cases t with
 | bj=>exact h
 | full f'=>exact h
 | tok f' b c=>
  obtain ⟨h0,cur,h1,h2,h3,h4,h5⟩:=h
  obtain ⟨k1,k2⟩:=hold f' b c rfl
  exact ⟨h0,cur,k1.trans h1,h2,h3,h4,fun o ho hi=>h5 o ho (k2 o hi)⟩
theorem tq.set {R':aj} {w':World} {sz:Nat} {e:TypeId} {fs:List Nat} {ts:List TR} (h:tq R w sz e fs ts) {j n g c:Nat} (sE:wh R' w' sz e n (.tok n g c)) (Fc:∀ i f c,nth ts i=some (.tok f g c)→i=j)
  (hold:∀ i f b c,i≠j→nth ts i=some (.tok f b c)→w'.heap[b]?=w.heap[b]?∧∀ o,R'.I b o→R.I b o):tq R' w' sz e (ax fs j n) (ax ts j (.tok n g c)):=by
 obtain ⟨h1,h2,h3⟩:=h
 refine ⟨by simp [h1],fun i i' f1 b c1 f2 c2 q1 q2=>?_,fun i f1 t1 q1 q2=>?_⟩
 ·rcases cP q1 with ⟨n1,e1,_⟩ | ⟨n1,q1⟩
  ·cases e1
   rcases cP q2 with ⟨n2,_,_⟩ | ⟨n2,q2⟩
   ·exact n1.symm.trans n2
   ·exact absurd (Fc _ _ _ q2).symm n2
  ·rcases cP q2 with ⟨n2,e2,_⟩ | ⟨n2,q2⟩
   ·cases e2
    exact (Fc _ _ _ q1).trans n2
   ·exact h2 i i' _ _ _ _ _ q1 q2
 ·rcases cP q1 with ⟨n1,e1,_⟩ | ⟨n1,q1⟩
  ·rcases cP q2 with ⟨_,e2,_⟩ | ⟨n2,_⟩
   ·subst e1 e2
    exact sE
   ·exact absurd n1 n2
  ·rcases cP q2 with ⟨n2,_,_⟩ | ⟨n2,q2⟩
   ·exact absurd n2 n1
   ·exact (h3 i f1 t1 q1 q2).of fun f b c ht=>by subst ht; exact hold i f b c (Ne.symm n2) q2
end ops
end Go.Am
