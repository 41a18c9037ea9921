/- The abstract machine: slices.SortFunc,by the shelf's contract,at a slice that grows. -/
import Derived.Test.YtfiopgedfcaodaaGreatDoorAmKK
import Derived.Shelf.SlSortCmp.NoneTotal
set_option linter.all false
namespace Go.Am
open Go Go.RowKit Go.Proofs Go.Shelf Go.Sort
def valA:AV→Value
 | .bool b=>.bool b
 | .int k n=>.int k n
 | .str l=>.string ⟨⟨l⟩⟩
 | _=>.bool false
theorem rel_valA {R:Realm} {w:World} {a:AV} {c:Value} (ha:scalarA a=true) (h:Rel R w a c):c=valA a:=by
 cases a <;> first | (cases ha; done) | (cases h; rfl)
theorem valA_rel {R:Realm} {w:World} {a:AV} (ha:scalarA a=true):Rel R w a (valA a):=by
 cases a <;> first | (cases ha; done) | constructor
theorem relL_vals {R:Realm} {w:World}:∀ {l:List AV} {vs:List Value},(∀ a∈l,scalarA a=true)→RelL R w l vs→vs=l.map valA
 | [],_,_,h=>by cases h; rfl
 | a :: l,_,hs,.cons h t=>by
  rw [rel_valA (hs a (by simp)) h,relL_vals (fun b hb=>hs b (by simp [hb])) t]
  rfl
theorem vals_relL {R:Realm} {w:World}:∀ {l:List AV},(∀ a∈l,scalarA a=true)→RelL R w l (l.map valA)
 | [],_=>.nil
 | a :: l,hs=>.cons (valA_rel (hs a (by simp))) (vals_relL fun b hb=>hs b (by simp [hb]))
theorem valA_one {a:AV} (ha:scalarA a=true):(valA a).oneCell'=true:=by
 cases a <;> first | (cases ha; done) | rfl
structure CmpForm (P:Program) (glob:Nat→Option (List AV)) (c:FuncId) (p:Pat) (k:Nat) (cf:p.T→p.T→Int):Prop where
 flat:p.flat=true
 size:∀ x,(p.enc x).cells.length=k
 scal:∀ x,∀ a∈(p.enc x).cells,scalarA a=true
 agg:∀ x,∃ cs,p.enc x=.agg cs
 calls:∀ (E:Env),E.P=P→E.glob=glob→∀ x y,PCalls E c [p.enc x,p.enc y] (fun r=>r=.int .i64 (cf x y))
 swo:SWO (ltOf cf)
 tot:∀ x y,(ltOf cf) x y=false→(ltOf cf) y x=false→x=y
def sortL (p:Pat) (cf:p.T→p.T→Int) (es:List AV):List AV:=(((es.map p.decD).mergeSort fun x y=>!(ltOf cf) y x)).map p.enc
def sortF (p:Pat) (cf:p.T→p.T→Int) (sz:Nat) (el:TypeId) (c:FuncId):List AV→List GO→Option (Bool × AV × List GO)
 | [.gsl id f off sz1 len,.fn c' [] []],G=>match nth G id with
  | some (.gro es sz2 el2)=>if Nat.beq c c'&&Nat.beq off 0&&Nat.beq sz1 sz&&Nat.beq sz2 sz&&Nat.beq el2 el then
    some (decide (f=es.length)&&decide (len=es.length)&&decide (es.length≤140737488355328)&&allFit p.fits es,.tup [],setN G id (.gro (sortL p cf es) sz el)) else none
  | _=>none
 | _,_=>none
theorem grow_of_below {W W':World} (h:Below W.heap.size W W') (hd:W.drawn≤W'.drawn):∃ q os,W'=Sort.grow (W.drewN q) os:=by
 refine ⟨W'.drawn - W.drawn,W'.heap.extract W.heap.size W'.heap.size,?_⟩
 have hh:W'.heap=W.heap++W'.heap.extract W.heap.size W'.heap.size:=by
  apply Array.ext_getElem?
  intro i
  by_cases hi:i < W.heap.size
  ·rw [Array.getElem?_append_left hi]
   exact h.block i hi
  ·rw [Array.getElem?_append_right (by omega),Array.getElem?_extract]
   have hs:=h.size
   by_cases hj:i < W'.heap.size
   ·rw [if_pos (by omega)]
    congr 1
    omega
   ·rw [if_neg (by omega),Array.getElem?_eq_none (by omega)]
 obtain ⟨hp,tp,dr,os,out⟩:=W'
 have h1:=h.os
 have h2:=h.tape
 have h3:=h.output
 simp only at hh h1 h2 h3 hd
 unfold Sort.grow World.drewN
 simp only
 rw [← hh,h1,h2,h3]
 congr 1
 omega
def encV (p:Pat) (x:p.T):List Value:=((p.enc x).cells).map valA
theorem flat_get {α:Type} [Inhabited α] {enc:α→List Value} {k:Nat} (hk:∀ x,(enc x).length=k):∀ (l:List α) (t:Nat),t < l.length * k→(l.flatMap enc)[t]?=some ((enc l[t / k]!)[t % k]!)
 | [],t,h=>by simp at h
 | x :: l,t,h=>by
  have hk0:0 < k:=by
   rcases Nat.eq_zero_or_pos k with h0 | h0
   ·rw [h0] at h; omega
   ·exact h0
  rw [List.flatMap_cons]
  by_cases ht:t < k
  ·rw [List.getElem?_append_left (by rw [hk]; exact ht),Nat.div_eq_of_lt ht,Nat.mod_eq_of_lt ht]
   have hl:t < (enc x).length:=by rw [hk]; exact ht
   simp [hl]
  ·have ht:k≤t:=Nat.le_of_not_lt ht
   rw [List.getElem?_append_right (by rw [hk]; exact ht),hk]
   have h':t - k < l.length * k:=by
    rw [List.length_cons,Nat.add_mul,Nat.one_mul] at h
    omega
   rw [flat_get hk l (t - k) h']
   have e1:t / k=(t - k) / k+1:=by
    rw [Nat.div_eq_sub_div hk0 ht]
   have e2:t % k=(t - k) % k:=Nat.mod_eq_sub_mod ht
   rw [e1,e2]
   simp
theorem flat_list {α:Type} [Inhabited α] {enc:α→List Value} {k:Nat} (hk:∀ x,(enc x).length=k) (d:Array α):(flatK enc k d).toList=d.toList.flatMap enc:=by
 have hl:(d.toList.flatMap enc).length=d.size * k:=by
  obtain ⟨l⟩:=d
  show (l.flatMap enc).length=l.length * k
  induction l with
  | nil=>simp
  | cons x l ih=>rw [List.flatMap_cons,List.length_append,hk,ih,List.length_cons,Nat.add_mul,Nat.one_mul,Nat.add_comm]
 apply List.ext_getElem?
 intro t
 by_cases ht:t < d.size * k
 ·have h1:=flat_get hk d.toList t (by simpa using ht)
  rw [h1]
  have hs:t < (flatK enc k d).size:=by rw [size_flatK]; exact ht
  have h2:=get_flatK enc k d t ht
  rw [getElem!_pos (flatK enc k d) t hs] at h2
  have e:∀ i:Nat,d[i]! = d.toList[i]!:=fun i=>by rw [getElem!_def,getElem!_def,Array.getElem?_toList]
  rw [Array.getElem?_toList,Array.getElem?_eq_getElem hs,h2,e]
 ·rw [List.getElem?_eq_none (by rw [Array.length_toList,size_flatK]; omega),List.getElem?_eq_none (by rw [hl]; omega)]
theorem cells_flat (p:Pat):∀ (xs:List p.T),(cellsL (xs.map p.enc)).map valA=xs.flatMap (encV p)
 | []=>rfl
 | x :: xs=>by
  rw [List.map_cons,cellsL,List.map_append,cells_flat p xs,List.flatMap_cons]
  rfl
theorem mapBlock_row {w:World} {b:Nat} {cur:Array Value} {el:TypeId} (h:w.heap[b]?=some (.cells cur el (0,0))) (f:Array Value→Array Value):mapBlock w b f=w.setRow b (f cur):=by
 unfold mapBlock World.setRow
 congr 1
 apply Array.ext_getElem?
 intro i
 rw [Array.getElem?_modify,Array.getElem?_modify]
 by_cases e:b=i
 ·subst e
  rw [if_pos rfl,if_pos rfl,h]
  rfl
 ·rw [if_neg e,if_neg e]
section
variable {E:Env} {ρ:Ren} {c:FuncId} {p:Pat} {k:Nat} {cf:p.T→p.T→Int} [Inhabited p.T]
theorem encV_len (hC:CmpForm E.P E.glob c p k cf) (x:p.T):(encV p x).length=k:=by
 unfold encV
 rw [List.length_map,hC.size]
theorem cmp_lays (hC:CmpForm E.P E.glob c p k cf) {R:Realm} {w:World} {G:List GO} (hg:RepG E R w G) {b:Nat} {cur:Array Value} {el:TypeId} (hb:w.heap[b]?=some (.cells cur el (0,0))) (hI:∀ o,¬ R.I b o) (size:Nat) :
  CmpLays E.P c #[] (encV p) k cf b 0 size w:=by
 intro m os dk _ x y
 have e1:putRowK (encV p) k (Sort.ahead w m) b 0 dk=(Sort.ahead w m).setRow b (putCells id 0 (flatK (encV p) k dk) cur):=mapBlock_row (w:=Sort.ahead w m) hb _
 have hW:sortWorldK (encV p) k w b 0 m dk os=Sort.grow ((Sort.ahead w m).setRow b (putCells id 0 (flatK (encV p) k dk) cur)) os:=by
  unfold sortWorldK
  rw [e1]
 rw [hW]
 generalize putCells id 0 (flatK (encV p) k dk) cur=cur2
 have eA:Ext R w R (Sort.ahead w m):=⟨fun _ _ h=>h,fun _ _ _=>rfl,fun _ ro h=>⟨ro,h,RoLe.refl ro⟩,.old fun _ _=>rfl⟩
 have eS:Ext R (Sort.ahead w m) R ((Sort.ahead w m).setRow b cur2):=ext_setRow hI cur2
 have hbel:Below ((Sort.ahead w m).setRow b cur2).heap.size ((Sort.ahead w m).setRow b cur2) (Sort.grow ((Sort.ahead w m).setRow b cur2) os):=by
  refine ⟨rfl,rfl,rfl,?_,fun i hi=>?_⟩
  ·show _≤(((Sort.ahead w m).setRow b cur2).heap++os).size
   rw [Array.size_append]; exact Nat.le_add_right _ _
  ·show (((Sort.ahead w m).setRow b cur2).heap++os)[i]?=_
   rw [Array.getElem?_append_left hi]
 have hsz:((Sort.ahead w m).setRow b cur2).heap.size=w.heap.size:=by unfold World.setRow; simp [Sort.ahead]
 have eG:Ext R ((Sort.ahead w m).setRow b cur2) R (Sort.grow ((Sort.ahead w m).setRow b cur2) os):=Below.extR hbel fun b' o hi=>by rw [hsz]; exact hg.wf b' o hi
 have eW:=(eA.trans eS).trans eG
 generalize hWd:Sort.grow ((Sort.ahead w m).setRow b cur2) os=W at *
 have hWs:w.heap.size≤W.heap.size:=by rw [← hsz]; exact hbel.size
 let E':Env:={ E with lo:=W.drawn }
 let R0:Realm:=⟨R.I,[]⟩
 have m0:Mv R R0 0:=⟨fun _ _ h=>h,fun _ _ h=>absurd h (Nat.not_lt_zero _)⟩
 have hg0:RepG E' R0 W []:=⟨rfl,fun id go ro h1 _=>by simp [nth] at h1,fun i j ri rj b h1=>by simp [R0,nth] at h1,fun b o h=>Nat.lt_of_lt_of_le (hg.wf b o h) hWs,
  fun g cs hgl=>((hg.glob g cs hgl).mono eW).move m0 (closedL_under _ (E.globOk g cs hgl)),Nat.le_refl _⟩
 have hrel:∀ z:p.T,Rel R0 W (p.enc z) (.agg (encV p z).toArray):=fun z=>by
  obtain ⟨cs,hcs⟩:=hC.agg z
  have hs:=hC.scal z
  unfold encV
  rw [hcs] at hs ⊢
  refine Rel.agg (vals_relL hs) fun v hv=>?_
  obtain ⟨a,ha,rfl⟩:=List.mem_map.1 hv
  exact valA_one (hs a ha)
 have hc:=(hC.calls E' rfl rfl x y []).2 R0 W [.agg (encV p x).toArray,.agg (encV p y).toArray] hg0 (.cons (hrel x) (.one (hrel y)))
 refine (callsIn_wide.1 hc).mono fun e w' he=>?_
 cases e with
 | panicked c=>exact he.elim
 | outgrown=>exact he.elim
 | returned cv=>
  obtain ⟨r,G',R1,⟨rfl,rfl⟩,hr,hg1,st⟩:=he
  have hcv:cv=.int .i64 (cf x y):=by cases hr; rfl
  subst hcv
  have hfree:∀ b,¬ Own R0 (fun _=>0) noBox b:=fun b ho=>by
   obtain ⟨id,ro,h1,_⟩:=own_noBox ho
   simp [R0,nth] at h1
  refine ⟨rfl,grow_of_below ⟨st.os,st.tape,st.output,st.size,fun i hi=>st.keep i hi (hfree i)⟩ hg1.lo⟩
theorem flat_dec {p:Pat} (hp:p.flat=true):∀ es:List AV,allFit p.fits es=true→es=(es.map p.decD).map p.enc
 | [],_=>rfl
 | a :: es,h=>by
  simp only [allFit,Bool.and_eq_true] at h
  rw [List.map_cons,List.map_cons,← flat_dec hp es h.2,Pat.flat_enc hp h.1]
theorem sortE_ok (L:SlLaysF0.n6 E.P ρ) (hp:Plain E.P (ρ.f 6)) (hc:Plain E.P c) (aE:∀ w,(isAgg (ρ.t 24)).run E.P w=.ok true w) (zE:∀ w,(Go.sizeOf (ρ.t 24)).run E.P w=.ok k w) (hC:CmpForm E.P E.glob c p k cf) (hE:E.lo=0) (hk0:1≤k) {el:TypeId} :
  ∀ (args:List AV) (G:List GO) (r:AV) (G':List GO),sortF p cf k el c args G=some (true,r,G')→ACalls E (ρ.f 6) args G (fun r' G''=>r'=r∧G''=G'):=by
 intro args G r G' h
 unfold sortF at h
 split at h
 ·rename_i G1 oid f off sz1 len c'
  split at h
  ·rename_i es sz2 el2 hid
   split at h
   ·rename_i hcnd
    simp only [Bool.and_eq_true] at hcnd
    obtain ⟨⟨⟨⟨q1,q2⟩,q3⟩,q4⟩,q5⟩:=hcnd
    have q1:=Nat.eq_of_beq_eq_true q1
    have q2:=Nat.eq_of_beq_eq_true q2
    have q3:=Nat.eq_of_beq_eq_true q3
    have q4:=Nat.eq_of_beq_eq_true q4
    have q5:=Nat.eq_of_beq_eq_true q5
    subst q1; subst q2; subst q3; subst q4; subst q5
    injection h with h
    injection h with h1 h
    injection h with h2 h3
    subst h2; subst h3
    simp only [Bool.and_eq_true,decide_eq_true_eq] at h1
    obtain ⟨⟨⟨hf,hlen0⟩,hbig⟩,hfit⟩:=h1
    refine ⟨hp,fun R w cs hg hl=>callsIn_wide.2 ?_⟩
    cases hl with
    | @cons _ cv _ _ r1 hl=>
    cases hl with
    | @cons _ fv _ _ r2 hl=>
    cases hl
    cases r2 with
    | fn x1 x2=>
    cases x1; cases x2
    by_cases he:es=[]
    ·subst he
     obtain ⟨pa,cap,rfl⟩:∃ pa cap,cv=.slice pa 0 cap:=by
      have hlen0:len=0:=hlen0
      subst hlen0
      cases r1 with
      | gnil _ _=>exact ⟨_,_,rfl⟩
      | gsl _ _ _=>exact ⟨_,_,rfl⟩
     refine (AnyF.slices_SortFunc_none (P:=E.P) (ρ:=ρ) L pa cap _ w).mono fun e w' ⟨e1,e2⟩=>?_
     subst e1; subst e2
     have hs0:sortL p cf []=[]:=by simp [sortL]
     have hG:setN G oid (.gro (sortL p cf []) sz2 el2)=G:=by rw [hs0]; exact setN_nth hid
     rw [hG]
     exact ⟨.tup [],G,R,⟨rfl,rfl⟩,Rel.tup .nil,hg,Step.refl _ _ _ _⟩
    ·have hpos:0 < es.length:=List.length_pos_iff.2 he
     cases r1 with
     | gnil _ _=>omega
     | @gsl _ _ _ _ _ cap b o' ro hro hok hcap=>
     subst hf; subst hlen0
     obtain ⟨b',c',cur,vs,rfl,g1,g2,g3,g4,g5,g6,g7,g8,g9⟩:=gro_tok hg hid hro (fun k=>by subst k; exact hok)
     obtain ⟨rfl,hcc,hoo⟩:=hok.2 rfl
     have ho':o'=0:=by
      rcases hoo with hoo | hoo
      ·rw [hoo,Nat.zero_mul]
      ·omega
     subst ho'
     -- the elements by their leaves
     have hdec:=flat_dec hC.flat es hfit
     generalize hxs:es.map p.decD=xs at hdec
     have hlen:xs.length=es.length:=by rw [← hxs,List.length_map]
     have hsc:∀ (ys:List p.T),∀ a∈cellsL (ys.map p.enc),scalarA a=true:=fun ys=>by
      induction ys with
      | nil=>intro a ha; simp [cellsL] at ha
      | cons y ys ih=>
       intro a ha
       rw [List.map_cons,cellsL] at ha
       rcases List.mem_append.1 ha with ha | ha
       ·exact hC.scal y a ha
       ·exact ih a ha
     have hvs:vs=xs.flatMap (encV p):=by
      rw [hdec] at g7
      rw [relL_vals (hsc xs) g7,cells_flat]
     have hd:(xs.toArray).size=es.length:=by simpa using hlen
     have hflat:(flatK (encV p) sz2 xs.toArray).toList=vs:=by rw [flat_list (encV_len hC),hvs]
     have hfs:(flatK (encV p) sz2 xs.toArray).size=es.length * sz2:=by rw [size_flatK,hd]
     have hcl:cur.toList.length=c' * sz2:=by rw [show cur.toList.length=cur.size from Array.length_toList,g5]
     have hle:es.length * sz2≤c' * sz2:=Nat.mul_le_mul_right _ g3
     have hH:HoldsK (encV p) sz2 w b 0 xs.toArray:=by
      intro j hj
      rw [hfs] at hj
      refine ⟨?_,?_⟩
      ·have hj2:j < (flatK (encV p) sz2 xs.toArray).size:=by rw [hfs]; exact hj
       rw [getElem!_pos (flatK (encV p) sz2 xs.toArray) j hj2,Nat.zero_add,cell_of_row w b j cur el2 (0,0) g2]
       have h1:cur[j]?=vs[j]?:=by
        rw [← g9,List.getElem?_take,if_pos hj,← Array.getElem?_toList]
       rw [h1,← hflat,Array.getElem?_toList,Array.getElem?_eq_getElem hj2]
       rfl
      ·unfold World.frozen?
       rw [g2]
       simp
     have hCL:=cmp_lays hC hg g2 g6 xs.toArray.size
     have key:=AnyQ.slices_SortFunc_total L sz2 aE zE (encV p) (encV_len hC) (fun x v hv=>by
      obtain ⟨a,ha,rfl⟩:=List.mem_map.1 hv
      exact valA_one (hC.scal x a ha)) cf hC.swo c #[] b 0 cap xs.toArray w (run_callFunc hc) hCL hH (block_lt g2) (by rw [hd]; omega) hC.tot
     rw [hd] at key
     refine key.mono fun e w' ⟨e1,n,os,e2⟩=>?_
     subst e1
     -- the world behind
     have e3:putRowK (encV p) sz2 (Sort.ahead w n) b 0 (xs.mergeSort fun x y=>!(ltOf cf) y x).toArray=(Sort.ahead w n).setRow b (putCells (fun v=>v) 0 (flatK (encV p) sz2 (xs.mergeSort fun x y=>!(ltOf cf) y x).toArray) cur):=mapBlock_row (w:=Sort.ahead w n) g2 _
     have e4:w'=Sort.grow ((Sort.ahead w n).setRow b (putCells (fun v=>v) 0 (flatK (encV p) sz2 (xs.mergeSort fun x y=>!(ltOf cf) y x).toArray) cur)) os:=by
      rw [e2]
      unfold sortWorldK
      rw [e3]
     clear e2 e3 key
     generalize hys:(xs.mergeSort fun x y=>!(ltOf cf) y x)=ys at e4
     have hyl:ys.length=es.length:=by rw [← hys,List.length_mergeSort,hlen]
     have hso:sortL p cf es=ys.map p.enc:=by unfold sortL; rw [hxs,hys]
     rw [hso]
     have hfy:(flatK (encV p) sz2 ys.toArray).toList=ys.flatMap (encV p):=by rw [flat_list (encV_len hC)]
     have hfys:(flatK (encV p) sz2 ys.toArray).size=es.length * sz2:=by rw [size_flatK]; simp [hyl]
     have hcs2:(putCells (fun v=>v) 0 (flatK (encV p) sz2 ys.toArray) cur).size=cur.size:=by simp [putCells]
     have htk:(putCells (fun v=>v) 0 (flatK (encV p) sz2 ys.toArray) cur).toList.take (es.length * sz2)=ys.flatMap (encV p):=by
      rw [← hfy]
      apply List.ext_getElem?
      intro t
      rw [List.getElem?_take]
      by_cases ht:t < es.length * sz2
      ·have h1:t < (flatK (encV p) sz2 ys.toArray).size:=by rw [hfys]; exact ht
       have h2:t < cur.size:=by rw [g5]; omega
       rw [if_pos ht,Array.getElem?_toList,Array.getElem?_toList,Array.getElem?_eq_getElem h1,Array.getElem?_eq_getElem (by rw [hcs2]; exact h2)]
       simp only [putCells,Array.getElem_mapIdx,Nat.zero_le,Nat.zero_add,h1,and_self,if_true,Nat.sub_zero]
       rw [getElem!_pos (flatK (encV p) sz2 ys.toArray) t h1]
      ·rw [if_neg ht,List.getElem?_eq_none (by rw [Array.length_toList,hfys]; omega)]
     generalize putCells (fun v=>v) 0 (flatK (encV p) sz2 ys.toArray) cur=cur2 at e4 hcs2 htk
     have hone:∀ v∈ys.flatMap (encV p),v.oneCell'=true:=fun v hv=>by
      obtain ⟨y,_,hy⟩:=List.mem_flatMap.1 hv
      obtain ⟨a,ha,rfl⟩:=List.mem_map.1 hy
      exact valA_one (hC.scal y a ha)
     have hel:ElOkG sz2 (ys.map p.enc):=fun a ha=>by
      obtain ⟨y,_,rfl⟩:=List.mem_map.1 ha
      refine ⟨hC.size y,?_⟩
      obtain ⟨cs,hcs⟩:=hC.agg y
      rw [hcs]; rfl
     have hrel:RelL R w (cellsL (ys.map p.enc)) (ys.flatMap (encV p)):=by
      rw [← cells_flat]
      exact vals_relL (hsc ys)
     have hrep:Rep E R w (fun _=>0) ⟨[],[],G,[],none,0⟩ (⟨#[],[]⟩:Act):=
      ⟨hg,⟨fun k cs h=>by simp [lkB] at h,fun k k' cs cs' h=>by simp [lkB] at h⟩,fun i hi=>absurd rfl hi,rfl,trivial⟩
     obtain ⟨k1,k2⟩:=hrep.setGro (es':=ys.map p.enc) hid hro g2 (by rw [List.length_map,hyl]) hel hcs2 hrel hone htk
     have hbel:Below (w.setRow b cur2).heap.size (w.setRow b cur2) w':=by
      rw [e4]
      refine ⟨rfl,rfl,rfl,?_,fun i hi=>?_⟩
      ·show _≤((w.setRow b cur2).heap++os).size
       rw [Array.size_append]; exact Nat.le_add_right _ _
      ·show ((w.setRow b cur2).heap++os)[i]?=_
       rw [Array.getElem?_append_left hi]
     exact ⟨.tup [],_,R,⟨rfl,rfl⟩,Rel.tup .nil,Below.repG hbel k1.g hE,k2.trans (Below.stepR hbel k1.g.wf)⟩
   ·cases h
  ·cases h
 ·cases h
end
end Go.Am
namespace Go.Am
open Go
def mrg (f:Nat→Nat) (e:Nat × Nat):Nat→Nat:=fun i=>if f i=max (f e.1) (f e.2) then min (f e.1) (f e.2) else f i
structure LabOk (f:Nat→Nat):Prop where
 le:∀ i,f i≤i
 idem:∀ i,f (f i)=f i
theorem LabOk.mrg {f:Nat→Nat} (h:LabOk f) (e:Nat × Nat):LabOk (mrg f e):=by
 have ha:=h.idem e.1
 have hb:=h.idem e.2
 refine ⟨fun i=>?_,fun i=>?_⟩
 ·have:=h.le i
  unfold Go.Am.mrg
  split <;> omega
 ·have hi:=h.idem i
  unfold Go.Am.mrg
  generalize f e.1=a at *
  generalize f e.2=b at *
  have hm:f (min a b)=min a b:=by rcases Nat.le_total a b with h | h <;> simp [Nat.min_eq_left,Nat.min_eq_right,h,ha,hb]
  by_cases h1:f i=max a b
  ·rw [if_pos h1,hm]
   split <;> omega
  ·rw [if_neg h1,hi,if_neg h1]
theorem mrg_same {f:Nat→Nat} {i j:Nat} (e:Nat × Nat) (h:f i=f j):mrg f e i=mrg f e j:=by unfold mrg; rw [h]
structure UF (f:Nat→Nat) (n:Nat) (u:Nat→Nat):Prop where
 le:∀ i,i < n→u i≤i
 lb:∀ i,i < n→f (u i)=f i
 fix:∀ i,i < n→u i=i→f i=i
def upd (u:Nat→Nat) (i v:Nat):Nat→Nat:=fun j=>if j=i then v else u j
theorem upd_self (u:Nat→Nat) (i v:Nat):upd u i v i=v:=if_pos rfl
theorem upd_ne {u:Nat→Nat} {i v j:Nat} (h:j≠i):upd u i v j=u j:=if_neg h
theorem UF.id (n:Nat):UF id n id:=⟨fun _ _=>Nat.le_refl _,fun _ _=>rfl,fun _ _ _=>rfl⟩
theorem UF.join {f u:Nat→Nat} {n:Nat} (h:UF f n u) (hf:LabOk f) (e:Nat × Nat) (h1:e.1 < n) (h2:e.2 < n):UF (mrg f e) n (upd u (max (f e.1) (f e.2)) (min (f e.1) (f e.2))):=by
 have k1:=hf.le e.1
 have k2:=hf.le e.2
 have i1:=hf.idem e.1
 have i2:=hf.idem e.2
 have j1:=h.le (f e.1) (by omega)
 have j2:=h.le (f e.2) (by omega)
 have hm:f (min (f e.1) (f e.2))=min (f e.1) (f e.2):=by rcases Nat.le_total (f e.1) (f e.2) with h | h <;> simp [Nat.min_eq_left,Nat.min_eq_right,h,i1,i2]
 have hM:f (max (f e.1) (f e.2))=max (f e.1) (f e.2):=by rcases Nat.le_total (f e.1) (f e.2) with h | h <;> simp [Nat.max_eq_left,Nat.max_eq_right,h,i1,i2]
 refine ⟨fun j hj=>?_,fun j hj=>?_,fun j hj hj2=>?_⟩
 ·by_cases c:j=max (f e.1) (f e.2)
  ·subst c; rw [upd_self]; omega
  ·rw [upd_ne c]; exact h.le j hj
 ·by_cases c:j=max (f e.1) (f e.2)
  ·subst c
   rw [upd_self]
   unfold mrg
   rw [hM,hm,if_pos rfl]
   split <;> omega
  ·rw [upd_ne c]
   exact mrg_same e (h.lb j hj)
 ·by_cases c:j=max (f e.1) (f e.2)
  ·subst c
   rw [upd_self] at hj2
   unfold mrg
   rw [hM,if_pos rfl,hj2]
  ·rw [upd_ne c] at hj2
   have:=h.fix j hj hj2
   unfold mrg
   rw [this,if_neg c]
def stepP (p:Nat→Nat) (e:Nat × Nat):Nat→Nat:=upd (upd p e.1 (min (p e.1) (p e.2))) e.2 (min (p e.1) (p e.2))
def roundP (es:List (Nat × Nat)) (p:Nat→Nat):Nat→Nat:=es.foldl stepP p
structure PropOk (f p:Nat→Nat):Prop where
 le:∀ i,p i≤i
 lb:∀ i,f (p i)=f i
theorem stepP_le (p:Nat→Nat) (e:Nat × Nat) (i:Nat):stepP p e i≤p i:=by
 unfold stepP upd
 split
 ·subst i; omega
 ·split
  ·subst i; omega
  ·omega
theorem PropOk.step {f p:Nat→Nat} (h:PropOk f p) {e:Nat × Nat} (he:f e.1=f e.2):PropOk f (stepP p e):=by
 refine ⟨fun i=>Nat.le_trans (stepP_le p e i) (h.le i),fun i=>?_⟩
 have hm:f (min (p e.1) (p e.2))=f e.1:=by
  rcases Nat.le_total (p e.1) (p e.2) with c | c
  ·rw [Nat.min_eq_left c]; exact h.lb e.1
  ·rw [Nat.min_eq_right c,h.lb e.2]; exact he.symm
 unfold stepP upd
 split
 ·subst i; rw [hm]; exact he
 ·split
  ·subst i; exact hm
  ·exact h.lb i
theorem PropOk.round {f:Nat→Nat}:∀ (es:List (Nat × Nat)) {p:Nat→Nat},PropOk f p→(∀ e∈es,f e.1=f e.2)→PropOk f (roundP es p)
 | [],_,h,_=>h
 | e :: es,_,h,he=>PropOk.round es (h.step (he e (by simp))) fun d hd=>he d (by simp [hd])
end Go.Am
namespace Go.Am
open Go
section
variable {κ ν:Type} [DecidableEq κ]
def getM (k:κ):List (κ × ν)→Option ν
 | []=>none
 | (k',v) :: m=>if k=k' then some v else getM k m
def putM (k:κ) (v:ν):List (κ × ν)→List (κ × ν)
 | []=>[(k,v)]
 | (k',v') :: m=>if k=k' then (k,v) :: m else (k',v') :: putM k v m
theorem getM_put (k k':κ) (v:ν):∀ m:List (κ × ν),getM k' (putM k v m)=if k'=k then some v else getM k' m
 | []=>rfl
 | (k1,v1) :: m=>by
  unfold putM
  by_cases h:k=k1
  ·subst h
   rw [if_pos rfl]
   by_cases h2:k'=k
   ·simp [getM,h2]
   ·simp [getM,h2]
  ·rw [if_neg h]
   by_cases h2:k'=k1
   ·subst h2
    have h3:¬ k'=k:=fun e=>h e.symm
    simp [getM,h3]
   ·simp only [getM,if_neg h2]
    exact getM_put k k' v m
structure MapEnc (ek:EK) (nk:κ→AV) (nv:ν→AV) (nM:κ × ν→AV):Prop where
 key:∀ a b,eqK ek (nk a) (nk b)=some (decide (a=b))
 pair:∀ x,nM x=.agg [nk x.1,nv x.2]
 exact:∀ x,(nM x).exact=true
variable {ek:EK} {nk:κ→AV} {nv:ν→AV} {nM:κ × ν→AV} (h:MapEnc ek nk nv nM)
include h
theorem MapEnc.get (k:κ):∀ m:List (κ × ν),mgetT ek (nk k) (entriesL (List.map nM m))=(getM k m).map nv
 | []=>rfl
 | x :: m=>by
  have ih:=MapEnc.get k m
  rw [List.map_cons,h.pair,entriesL]
  show (bif eqT ek (nk k) (nk x.1) then some (nv x.2) else mgetT ek (nk k) (entriesL (List.map nM m)))=(if k=x.1 then some x.2 else getM k m).map nv
  unfold eqT
  rw [h.key,ih]
  by_cases e:k=x.1
  ·simp [e]
  ·simp [e]
theorem MapEnc.getD (k:κ) (z:ν) (m:List (κ × ν)):mgetD ek (nk k) (nv z) (entriesL (List.map nM m))=nv ((getM k m).getD z):=by
 unfold mgetD
 rw [h.get]
 cases getM k m <;> rfl
theorem MapEnc.put (k:κ) (v:ν):∀ m:List (κ × ν),mputT ek (nk k) (nv v) (entriesL (List.map nM m))=entriesL (List.map nM (putM k v m))
 | []=>by
  show [(nk k,nv v)]=entriesL [nM (k,v)]
  rw [h.pair]
  rfl
 | x :: m=>by
  have ih:=MapEnc.put k v m
  rw [List.map_cons,h.pair,entriesL]
  show (bif eqT ek (nk k) (nk x.1) then (nk k,nv v) :: entriesL (List.map nM m) else (nk x.1,nv x.2) :: mputT ek (nk k) (nv v) (entriesL (List.map nM m)))=entriesL (List.map nM (if k=x.1 then (k,v) :: m else (x.1,x.2) :: putM k v m))
  unfold eqT
  rw [h.key,ih]
  by_cases e:k=x.1
  ·simp only [e,decide_true,cond_true,if_true,List.map_cons]
   rw [h.pair (x.1,v),entriesL]
   rfl
  ·simp only [e,decide_false,cond_false,if_false,List.map_cons]
   rw [h.pair (x.1,x.2),entriesL]
   rfl
theorem MapEnc.cells:∀ m:List (κ × ν),mcells (entriesL (List.map nM m))=List.map nM m
 | []=>rfl
 | x :: m=>by
  have ih:=MapEnc.cells m
  rw [List.map_cons,h.pair,entriesL]
  show AV.agg [nk x.1,nv x.2] :: mcells (entriesL (List.map nM m))=_
  rw [ih]
theorem MapEnc.allX (m:List (κ × ν)):Go.Am.allX (entriesL (List.map nM m))=true:=by
 unfold Go.Am.allX
 rw [h.cells]
 induction m with
 | nil=>rfl
 | cons x m ih=>rw [List.map_cons,exactL,ih,h.exact]; rfl
end
theorem eqK_int (k:IntKind) (a b:Int):eqK .int (.int k a) (.int k b)=some (decide (a=b)):=by
 unfold eqK
 simp only [eqA,if_true]
 by_cases h:a=b
 ·subst h; simp [EK.wide]
 ·have:(a == b)=false:=by simpa using h
  rw [this]; simp [h]
end Go.Am
namespace Go.Am
open Go Go.Sort
section
variable {α:Type} [DecidableEq α] {lt:α→α→Bool}
def Asc (lt:α→α→Bool) (l:List α):Prop:=l.Pairwise fun x y=>lt x y=true
omit [DecidableEq α] in
theorem asc_ext (hw:SWO lt):∀ {a b:List α},Asc lt a→Asc lt b→(∀ x,x∈a↔x∈b)→a=b
 | [],[],_,_,_=>rfl
 | [],y :: b,_,_,h=>by have:=(h y).2 (by simp); simp at this
 | x :: a,[],_,_,h=>by have:=(h x).1 (by simp); simp at this
 | x :: a,y :: b,ha,hb,h=>by
  have ha':=List.pairwise_cons.1 ha
  have hb':=List.pairwise_cons.1 hb
  have hxy:x=y:=by
   have h1:=(h x).1 (by simp)
   have h2:=(h y).2 (by simp)
   rcases List.mem_cons.1 h1 with h1 | h1
   ·exact h1
   ·rcases List.mem_cons.1 h2 with h2 | h2
    ·exact h2.symm
    ·have l1:=hb'.1 x h1
     have l2:=ha'.1 y h2
     have:=hw.trans _ _ _ l1 l2
     rw [hw.irrefl] at this
     cases this
  subst hxy
  congr 1
  refine asc_ext hw ha'.2 hb'.2 fun z=>?_
  constructor
  ·intro hz
   rcases List.mem_cons.1 ((h z).1 (by simp [hz])) with rfl | h2
   ·have:=ha'.1 z hz
    rw [hw.irrefl] at this
    cases this
   ·exact h2
  ·intro hz
   rcases List.mem_cons.1 ((h z).2 (by simp [hz])) with rfl | h2
   ·have:=hb'.1 z hz
    rw [hw.irrefl] at this
    cases this
   ·exact h2
def uqN (d:α) (l:List α):Nat→List α
 | 0=>[]
 | m+1=>if 0 < m∧l.getD m d=l.getD (m - 1) d then uqN d l m else uqN d l m++[l.getD m d]
theorem uqN_len (d:α) (l:List α):∀ m,(uqN d l m).length≤m
 | 0=>Nat.le_refl _
 | m+1=>by
  have:=uqN_len d l m
  unfold uqN
  split
  ·omega
  ·rw [List.length_append,List.length_singleton]; omega
theorem uqN_take (d:α) (l:List α):∀ m,m≤l.length→(∀ k,0 < k→k < m→l.getD k d≠l.getD (k - 1) d)→uqN d l m=l.take m
 | 0,_,_=>by simp [uqN]
 | m+1,hm,h=>by
  have e:l.getD m d=l[m]:=by simp [show m < l.length by omega]
  unfold uqN
  rw [if_neg (fun c=>h m c.1 (by omega) c.2),uqN_take d l m (by omega) fun k h1 h2=>h k h1 (by omega),e,List.take_succ,List.getElem?_eq_getElem (by omega)]
  rfl
theorem uqN_mem (d:α) (l:List α):∀ m,m≤l.length→∀ x,x∈uqN d l m↔x∈l.take m
 | 0,_,x=>by simp [uqN]
 | m+1,hm,x=>by
  have e:l.getD m d=l[m]:=by simp [show m < l.length by omega]
  have ih:=uqN_mem d l m (by omega)
  have et:l.take (m+1)=l.take m++[l[m]]:=by rw [List.take_succ,List.getElem?_eq_getElem (by omega)]; rfl
  unfold uqN
  rw [et]
  split
  ·rename_i hc
   rw [ih,List.mem_append,List.mem_singleton]
   constructor
   ·exact .inl
   ·rintro (h | rfl)
    ·exact h
    ·have e2:l.getD (m - 1) d=l[m - 1]:=by simp [show m - 1 < l.length by omega]
     rw [e,e2] at hc
     rw [hc.2,List.mem_take_iff_getElem]
     exact ⟨m - 1,by omega,rfl⟩
  ·rw [List.mem_append,List.mem_append,ih,e]
theorem uqN_asc (hw:SWO lt) (ht:∀ x y,lt x y=false→lt y x=false→x=y) (d:α) (l:List α) (hs:l.Pairwise fun x y=>lt y x=false):∀ m,m≤l.length→Asc lt (uqN d l m)
 | 0,_=>List.Pairwise.nil
 | m+1,hm=>by
  have ih:=uqN_asc hw ht d l hs m (by omega)
  have e:l.getD m d=l[m]:=by simp [show m < l.length by omega]
  unfold uqN
  split
  ·exact ih
  ·rename_i hc
   refine List.pairwise_append.2 ⟨ih,List.pairwise_singleton _ _,fun x hx y hy=>?_⟩
   rw [List.mem_singleton] at hy
   subst hy
   have hx':=(uqN_mem d l m (by omega) x).1 hx
   obtain ⟨k,hk,rfl⟩:=List.mem_take_iff_getElem.1 hx'
   have hk1:k < m:=by omega
   rw [e] at hc ⊢
   have h1:lt l[m] l[k]=false:=List.pairwise_iff_getElem.1 hs k m (by omega) (by omega) hk1
   cases hl:lt l[k] l[m] with
   | true=>rfl
   | false=>
    exfalso
    have heq:=ht _ _ hl h1
    -- the one before is between
    have h0:0 < m:=by omega
    have e2:l.getD (m - 1) d=l[m - 1]:=by simp [show m - 1 < l.length by omega]
    rw [e2] at hc
    apply hc
    refine ⟨h0,?_⟩
    have h2:lt l[m] l[m - 1]=false:=List.pairwise_iff_getElem.1 hs (m - 1) m (by omega) (by omega) (by omega)
    refine ht _ _ h2 ?_
    by_cases hkm:k=m - 1
    ·subst hkm; exact hl
    ·have h3:lt l[m - 1] l[k]=false:=List.pairwise_iff_getElem.1 hs k (m - 1) (by omega) (by omega) (by omega)
     rw [← heq]
     exact h3
def ins1 (lt:α→α→Bool) (d:α) (k:α) (l:List α):List α:=
 let at_:=(l.takeWhile fun x=>lt x k).length
 if at_=l.length∨l.getD at_ d≠k then l.take at_++[k]++l.drop at_ else l
omit [DecidableEq α] in
theorem takeWhile_split (p:α→Bool):∀ l:List α,(∀ x∈l.take (l.takeWhile p).length,p x=true)∧∀ h:(l.takeWhile p).length < l.length,p l[(l.takeWhile p).length]=false
 | []=>by simp
 | a :: l=>by
  obtain ⟨h1,h2⟩:=takeWhile_split p l
  by_cases ha:p a=true
  ·simp only [List.takeWhile_cons,ha,if_true,List.length_cons,List.take_succ_cons,List.mem_cons,forall_eq_or_imp,true_and,List.getElem_cons_succ]
   exact ⟨h1,fun h=>h2 (by omega)⟩
  ·simp only [List.takeWhile_cons,if_neg ha,List.length_nil,List.take_zero]
   refine ⟨by simp,fun _=>?_⟩
   rw [List.getElem_cons_zero]
   exact Bool.eq_false_iff.2 ha
theorem ins1_mem (d:α) (k:α) (l:List α) (x:α):x∈ins1 lt d k l↔x=k∨x∈l:=by
 unfold ins1
 simp only
 have hle:(l.takeWhile fun x=>lt x k).length≤l.length:=(List.takeWhile_sublist _).length_le
 generalize (l.takeWhile fun x=>lt x k).length=a at *
 have e:x∈l↔x∈l.take a∨x∈l.drop a:=by rw [← List.mem_append,List.take_append_drop]
 split
 ·simp only [List.mem_append,List.mem_singleton]
  rw [e]
  constructor
  ·rintro ((h | h) | h)
   ·exact .inr (.inl h)
   ·exact .inl h
   ·exact .inr (.inr h)
  ·rintro (h | h | h)
   ·exact .inl (.inr h)
   ·exact .inl (.inl h)
   ·exact .inr h
 ·rename_i h
  rw [not_or,Decidable.not_not] at h
  constructor
  ·exact .inr
  ·rintro (rfl | h2)
   ·have hl:a < l.length:=by omega
    have e2:l.getD a d=l[a]:=by simp [hl]
    rw [e2] at h
    rw [← h.2]
    exact List.getElem_mem hl
   ·exact h2
theorem ins1_asc (hw:SWO lt) (ht:∀ x y,lt x y=false→lt y x=false→x=y) (d:α) (k:α) (l:List α) (hl:Asc lt l):Asc lt (ins1 lt d k l):=by
 unfold ins1
 simp only
 obtain ⟨h1,h2⟩:=takeWhile_split (fun x=>lt x k) l
 have hle:(l.takeWhile fun x=>lt x k).length≤l.length:=(List.takeWhile_sublist _).length_le
 generalize (l.takeWhile fun x=>lt x k).length=a at *
 have hp:=List.pairwise_iff_getElem.1 hl
 split
 ·rename_i hc
  have hgt:∀ y∈l.drop a,lt k y=true:=by
   intro y hy
   obtain ⟨j,hj,rfl⟩:=List.getElem_of_mem hy
   rw [List.length_drop] at hj
   rw [List.getElem_drop]
   have hal:a < l.length:=by omega
   have e2:l.getD a d=l[a]:=by simp [hal]
   have hka:lt k l[a]=true:=by
    cases hh:lt k l[a] with
    | true=>rfl
    | false=>
     have:=ht _ _ (h2 hal) hh
     rcases hc with hc | hc
     ·omega
     ·rw [e2] at hc; exact absurd this hc
   by_cases h0:j=0
   ·subst h0; simpa using hka
   ·exact hw.trans _ _ _ hka (hp a (a+j) hal (by omega) (by omega))
  unfold Asc
  rw [List.append_assoc,List.pairwise_append]
  refine ⟨hl.take,?_,fun x hx y hy=>?_⟩
  ·rw [List.singleton_append,List.pairwise_cons]
   exact ⟨hgt,hl.drop⟩
  ·rw [List.singleton_append] at hy
   have hxk:=h1 x hx
   rcases List.mem_cons.1 hy with rfl | hy
   ·exact hxk
   ·exact hw.trans _ _ _ hxk (hgt y hy)
 ·exact hl
def insL (lt:α→α→Bool) (d:α) (l:List α):List α:=l.foldl (fun s k=>ins1 lt d k s) []
theorem insL_spec (hw:SWO lt) (ht:∀ x y,lt x y=false→lt y x=false→x=y) (d:α) (l:List α):Asc lt (insL lt d l)∧∀ x,x∈insL lt d l↔x∈l:=by
 have gen:∀ (l s:List α),Asc lt s→Asc lt (l.foldl (fun s k=>ins1 lt d k s) s)∧∀ x,x∈l.foldl (fun s k=>ins1 lt d k s) s↔x∈s∨x∈l:=by
  intro l
  induction l with
  | nil=>intro s hs; exact ⟨hs,fun x=>by simp⟩
  | cons k l ih=>
   intro s hs
   rw [List.foldl_cons]
   obtain ⟨h1,h2⟩:=ih _ (ins1_asc hw ht d k s hs)
   refine ⟨h1,fun x=>?_⟩
   rw [h2,ins1_mem,List.mem_cons]
   constructor
   ·rintro ((h | h) | h)
    ·exact .inr (.inl h)
    ·exact .inl h
    ·exact .inr (.inr h)
   ·rintro (h | h | h)
    ·exact .inl (.inr h)
    ·exact .inl (.inl h)
    ·exact .inr h
 obtain ⟨h1,h2⟩:=gen l [] List.Pairwise.nil
 exact ⟨h1,fun x=>by rw [show insL lt d l=l.foldl (fun s k=>ins1 lt d k s) [] from rfl,h2]; simp⟩
omit [DecidableEq α] in
theorem srt_spec (hw:SWO lt) (l:List α):(l.mergeSort fun x y=>!lt y x).Pairwise (fun x y=>lt y x=false)∧∀ x,x∈(l.mergeSort fun x y=>!lt y x)↔x∈l:=by
 refine ⟨?_,fun x=>(List.mergeSort_perm l _).mem_iff⟩
 have h:=List.pairwise_mergeSort (le:=fun x y=>!lt y x) (fun a b c h1 h2=>by
  simp only [Bool.not_eq_true'] at h1 h2 ⊢
  exact hw.ntrans _ _ _ h2 h1) (fun a b=>by
  simp only [Bool.or_eq_true,Bool.not_eq_true']
  cases h1:lt b a with
  | false=>exact .inl rfl
  | true=>
   right
   cases h2:lt a b with
   | false=>rfl
   | true=>
    have:=hw.trans _ _ _ h1 h2
    rw [hw.irrefl] at this
    cases this) l
 exact h.imp fun hab=>by simpa using hab
theorem uq_srt (hw:SWO lt) (ht:∀ x y,lt x y=false→lt y x=false→x=y) (d:α) (l:List α):uqN d (l.mergeSort fun x y=>!lt y x) l.length=insL lt d l:=by
 obtain ⟨s1,s2⟩:=srt_spec hw l
 have hlen:(l.mergeSort fun x y=>!lt y x).length=l.length:=List.length_mergeSort _
 obtain ⟨i1,i2⟩:=insL_spec hw ht d l
 refine asc_ext hw (uqN_asc hw ht d _ s1 _ (Nat.le_of_eq hlen.symm)) i1 fun x=>?_
 rw [uqN_mem d _ _ (Nat.le_of_eq hlen.symm),List.take_of_length_le (Nat.le_of_eq hlen),s2,i2]
end
theorem loopR_cnt {V X S:Type} {rd:V→Option (V ⊕ X)} (m:Nat) (E:S→Nat→V) (P:S→Nat→Prop) (Q:X→Prop)
  (h:∀ s k,k < m→P s k→∃ s',rd (E s k)=some (.inl (E s' (k+1)))∧P s' (k+1))
  (h0:∀ s,P s m→∃ x,rd (E s m)=some (.inr x)∧Q x) :
  ∀ n s k,k≤m→m < n+k→P s k→∃ x,loopR rd n (E s k)=some x∧Q x
 | 0,s,k,hk,hn,_=>by omega
 | n+1,s,k,hk,hn,hP=>by
  rw [loopR_succ]
  by_cases hlt:k < m
  ·obtain ⟨s',e,hP'⟩:=h s k hlt hP
   rw [e]
   exact loopR_cnt m E P Q h h0 n s' (k+1) hlt (by omega) hP'
  ·obtain rfl:k=m:=by omega
   obtain ⟨x,e,hQ⟩:=h0 s hP
   rw [e]
   exact ⟨x,rfl,hQ⟩
theorem loopR_cne {V X S:Type} {rd:V→Option (V ⊕ X)} (m:Nat) (E:S→Nat→V) (P:S→Nat→Prop) (Q:X→Prop)
  (h:∀ s k,k < m→P s k→(∃ s',rd (E s k)=some (.inl (E s' (k+1)))∧P s' (k+1))∨∃ x,rd (E s k)=some (.inr x)∧Q x)
  (h0:∀ s,P s m→∃ x,rd (E s m)=some (.inr x)∧Q x) :
  ∀ n s k,k≤m→m < n+k→P s k→∃ x,loopR rd n (E s k)=some x∧Q x
 | 0,s,k,hk,hn,_=>by omega
 | n+1,s,k,hk,hn,hP=>by
  rw [loopR_succ]
  by_cases hlt:k < m
  ·rcases h s k hlt hP with ⟨s',e,hP'⟩ | ⟨x,e,hQ⟩
   ·rw [e]
    exact loopR_cne m E P Q h h0 n s' (k+1) hlt (by omega) hP'
   ·rw [e]
    exact ⟨x,rfl,hQ⟩
  ·obtain rfl:k=m:=by omega
   obtain ⟨x,e,hQ⟩:=h0 s hP
   rw [e]
   exact ⟨x,rfl,hQ⟩
end Go.Am
