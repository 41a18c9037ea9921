/- The abstract machine: slices.SortFunc,by the shelf's contract,at a slice that grows. -/
import Derived.Test.YtfiopgedfcaodaaGreatDoorAmKJ
import Derived.Shelf.SlSortCmp.NoneTotal
set_option linter.all false
namespace Go.Am
open Go Go.RowKit Go.Proofs Go.Shelf Go.Sort
def FV:AV→Value
 | .bool b=>.bool b
 | .int k n=>.int k n
 | .str l=>.string ⟨⟨l⟩⟩
 | _=>.bool false
theorem LH {R:aj} {w:World} {a:AV} {c:Value} (ha:ib a=true) (h:Rel R w a c):c=FV a:=by
 cases a <;> first | (cases ha; done) | (cases h; rfl)
theorem LI {R:aj} {w:World} {a:AV} (ha:ib a=true):Rel R w a (FV a):=by
 cases a <;> first | (cases ha; done) | constructor
theorem Au {R:aj} {w:World}:∀ {l:List AV} {vs:List Value},(∀ a∈l,ib a=true)→aK R w l vs→vs=l.map FV
 | [],_,_,h=>by cases h; rfl
 | a :: l,_,hs,.cons h t=>by
  rw [LH (hs a (by simp)) h,Au (fun b hb=>hs b (by simp [hb])) t]
  rfl
theorem tJ {R:aj} {w:World}:∀ {l:List AV},(∀ a∈l,ib a=true)→aK R w l (l.map FV)
 | [],_=>.nil
 | a :: l,hs=>.cons (LI (hs a (by simp))) (tJ fun b hb=>hs b (by simp [hb]))
theorem yi {a:AV} (ha:ib a=true):(FV a).oneCell'=true:=by
 cases a <;> first | (cases ha; done) | rfl
structure su (P:Program) (cw:Nat→Option (List AV)) (c:FuncId) (p:aA) (k:Nat) (cf:p.T→p.T→Int):Prop where
 flat:p.flat=true
 size:∀ x,(p.enc x).cells.length=k
 IT:∀ x,∀ a∈(p.enc x).cells,ib a=true
 agg:∀ x,∃ cs,p.enc x=.agg cs
 calls:∀ (E:Env),E.P=P→E.cw=cw→E.gx=(fun _=>false)→∀ x y,ck E c [p.enc x,p.enc y] (fun r=>r=.int .i64 (cf x y))
 swo:SWO (ltOf cf)
 tot:∀ x y,(ltOf cf) x y=false→(ltOf cf) y x=false→x=y
def kw (p:aA) (cf:p.T→p.T→Int) (es:List AV):List AV:=(((es.map p.bh).mergeSort fun x y=>!(ltOf cf) y x)).map p.enc
def Hc (p:aA) (cf:p.T→p.T→Int) (sz:Nat) (el:TypeId) (c:FuncId):List AV→List GO→Option (Bool × AV × List GO)
 | [.cR id f off sz1 len,.fn c' [] []],G=>match nth G id with
  | some (.a7 es n5 Z5)=>if Nat.beq c c'&&Nat.beq off 0&&Nat.beq sz1 sz&&Nat.beq n5 sz&&Nat.beq Z5 el then
    some (decide (f=es.length)&&decide (len=es.length)&&decide (es.length≤140737488355328)&&allFit p.fits es,.bH [],ap G id (.a7 (kw p cf es) sz el)) else none
  | _=>none
 | _,_=>none
theorem zw {W W':World} (h:Below W.heap.size W W') (hd:W.drawn≤W'.drawn):∃ q os,W'=Sort.grow (W.drewN q) os:=by
 refine ⟨W'.drawn - W.drawn,W'.heap.extract W.heap.size W'.heap.size,?_⟩
 have hh:W'.heap=W.heap++W'.heap.extract W.heap.size W'.heap.size:=by
  apply Array.ext_getElem?
  intro i
  by_cases hi:i < W.heap.size
  ·rw [Array.getElem?_append_left hi]
   exact h.block i hi
  ·rw [Array.getElem?_append_right (by omega),Array.getElem?_extract]
   have hs:=h.size
   by_cases hj:i < W'.heap.size
   ·rw [if_pos (by omega)]
    congr 1
    omega
   ·rw [if_neg (by omega),Array.getElem?_eq_none (by omega)]
 obtain ⟨hp,tp,dr,os,out⟩:=W'
 have h1:=h.os
 have h2:=h.tape
 have h3:=h.output
 simp only at hh h1 h2 h3 hd
 unfold Sort.grow World.drewN
 simp only
 rw [← hh,h1,h2,h3]
 congr 1
 omega
def fV (p:aA) (x:p.T):List Value:=((p.enc x).cells).map FV
theorem oW {α:Type} [Inhabited α] {enc:α→List Value} {k:Nat} (hk:∀ x,(enc x).length=k):∀ (l:List α) (t:Nat),t < l.length * k→(l.flatMap enc)[t]?=some ((enc l[t / k]!)[t % k]!)
 | [],t,h=>by simp at h
 | x :: l,t,h=>by
  have H9:0 < k:=by
   rcases Nat.eq_zero_or_pos k with h0 | h0
   ·rw [h0] at h; omega
   ·exact h0
  rw [List.flatMap_cons]
  by_cases ht:t < k
  ·rw [List.getElem?_append_left (by rw [hk]; exact ht),Nat.div_eq_of_lt ht,Nat.mod_eq_of_lt ht]
   have hl:t < (enc x).length:=by rw [hk]; exact ht
   simp [hl]
  ·have ht:k≤t:=Nat.le_of_not_lt ht
   rw [List.getElem?_append_right (by rw [hk]; exact ht),hk]
   have h':t - k < l.length * k:=by
    rw [List.length_cons,Nat.add_mul,Nat.one_mul] at h
    omega
   rw [oW hk l (t - k) h']
   have e1:t / k=(t - k) / k+1:=by
    rw [Nat.div_eq_sub_div H9 ht]
   have e2:t % k=(t - k) % k:=Nat.mod_eq_sub_mod ht
   rw [e1,e2]
   simp
theorem Av {α:Type} [Inhabited α] {enc:α→List Value} {k:Nat} (hk:∀ x,(enc x).length=k) (d:Array α):(flatK enc k d).toList=d.toList.flatMap enc:=by
 have hl:(d.toList.flatMap enc).length=d.size * k:=by
  obtain ⟨l⟩:=d
  show (l.flatMap enc).length=l.length * k
  induction l with
  | nil=>simp
  | cons x l ih=>rw [List.flatMap_cons,List.length_append,hk,ih,List.length_cons,Nat.add_mul,Nat.one_mul,Nat.add_comm]
 apply List.ext_getElem?
 intro t
 by_cases ht:t < d.size * k
 ·have h1:=oW hk d.toList t (by simpa using ht)
  rw [h1]
  have hs:t < (flatK enc k d).size:=by rw [size_flatK]; exact ht
  have h2:=get_flatK enc k d t ht
  rw [getElem!_pos (flatK enc k d) t hs] at h2
  have e:∀ i:Nat,d[i]! = d.toList[i]!:=fun i=>by rw [getElem!_def,getElem!_def,Array.getElem?_toList]
  rw [Array.getElem?_toList,Array.getElem?_eq_getElem hs,h2,e]
 ·rw [List.getElem?_eq_none (by rw [Array.length_toList,size_flatK]; omega),List.getElem?_eq_none (by rw [hl]; omega)]
theorem qQ (p:aA):∀ (xs:List p.T),(aq (xs.map p.enc)).map FV=xs.flatMap (fV p)
 | []=>rfl
 | x :: xs=>by
  rw [List.map_cons,aq,List.map_append,qQ p xs,List.flatMap_cons]
  rfl
theorem sw {w:World} {b:Nat} {cur:Array Value} {el:TypeId} (h:w.heap[b]?=some (.cells cur el (0,0))) (f:Array Value→Array Value):mapBlock w b f=w.setRow b (f cur):=by
 unfold mapBlock World.setRow
 congr 1
 apply Array.ext_getElem?
 intro i
 rw [Array.getElem?_modify,Array.getElem?_modify]
 by_cases e:b=i
 ·subst e
  rw [if_pos rfl,if_pos rfl,h]
  rfl
 ·rw [if_neg e,if_neg e]
section
variable {E:Env} {ρ:Ren} {c:FuncId} {p:aA} {k:Nat} {cf:p.T→p.T→Int} [Inhabited p.T]
theorem yj (hC:su E.P E.cw c p k cf) (x:p.T):(fV p x).length=k:=by
 unfold fV
 rw [List.length_map,hC.size]
theorem LJ (N6:E.gx=fun _=>false) (hC:su E.P E.cw c p k cf) {R:aj} {w:World} {G:List GO} (hg:dE E R w G) {b:Nat} {cur:Array Value} {el:TypeId} (hb:w.heap[b]?=some (.cells cur el (0,0))) (hI:∀ o,¬ R.I b o) (size:Nat) :
  CmpLays E.P c #[] (fV p) k cf b 0 size w:=by
 intro m os dk _ x y
 have e1:putRowK (fV p) k (Sort.ahead w m) b 0 dk=(Sort.ahead w m).setRow b (putCells id 0 (flatK (fV p) k dk) cur):=sw (w:=Sort.ahead w m) hb _
 have hW:sortWorldK (fV p) k w b 0 m dk os=Sort.grow ((Sort.ahead w m).setRow b (putCells id 0 (flatK (fV p) k dk) cur)) os:=by
  unfold sortWorldK
  rw [e1]
 rw [hW]
 generalize putCells id 0 (flatK (fV p) k dk) cur=cur2
 have eA:Ext R w R (Sort.ahead w m):=⟨fun _ _ h=>h,fun _ _ _=>rfl,fun _ ro h=>⟨ro,h,cm.refl ro⟩,.old fun _ _=>rfl⟩
 have eS:Ext R (Sort.ahead w m) R ((Sort.ahead w m).setRow b cur2):=iJ hI cur2
 have LL:Below ((Sort.ahead w m).setRow b cur2).heap.size ((Sort.ahead w m).setRow b cur2) (Sort.grow ((Sort.ahead w m).setRow b cur2) os):=by
  refine ⟨rfl,rfl,rfl,?_,fun i hi=>?_⟩
  ·show _≤(((Sort.ahead w m).setRow b cur2).heap++os).size
   rw [Array.size_append]; exact Nat.le_add_right _ _
  ·show (((Sort.ahead w m).setRow b cur2).heap++os)[i]?=_
   rw [Array.getElem?_append_left hi]
 have ej:((Sort.ahead w m).setRow b cur2).heap.size=w.heap.size:=by unfold World.setRow; simp [Sort.ahead]
 have eG:Ext R ((Sort.ahead w m).setRow b cur2) R (Sort.grow ((Sort.ahead w m).setRow b cur2) os):=Below.TF LL fun b' o hi=>by rw [ej]; exact hg.wf b' o hi
 have eW:=(eA.trans eS).trans eG
 generalize hWd:Sort.grow ((Sort.ahead w m).setRow b cur2) os=W at *
 have hWs:w.heap.size≤W.heap.size:=by rw [← ej]; exact LL.size
 let E':Env:={ E with lo:=W.drawn }
 let R0:aj:=⟨R.I,[]⟩
 have m0:Mv R R0 0:=⟨fun _ _ h=>h,fun _ _ h=>absurd h (Nat.not_lt_zero _)⟩
 have RW:dE E' R0 W []:=⟨rfl,fun id go ro h1 _=>by simp [nth] at h1,fun i j ri rj b h1=>by simp [R0,nth] at h1,fun b o h=>Nat.lt_of_lt_of_le (hg.wf b o h) hWs,
  fun g cs qw=>((hg.cw g cs qw).mono eW).move m0 (cn _ (E.vX g cs qw)),Nat.le_refl _⟩
 have dZ:∀ z:p.T,Rel R0 W (p.enc z) (.agg (fV p z).toArray):=fun z=>by
  obtain ⟨cs,qv⟩:=hC.agg z
  have hs:=hC.IT z
  unfold fV
  rw [qv] at hs ⊢
  refine Rel.agg (tJ hs) fun v hv=>?_
  obtain ⟨a,ha,rfl⟩:=List.mem_map.1 hv
  exact yi (hs a ha)
 have hc:=(hC.calls E' rfl rfl N6 x y []).2 R0 W [.agg (fV p x).toArray,.agg (fV p y).toArray] RW (.cons (dZ x) (.one (dZ y)))
 refine (callsIn_wide.1 hc).mono fun e w' he=>?_
 cases e with
 | panicked c=>exact he.elim
 | outgrown=>exact he.elim
 | returned cv=>
  obtain ⟨r,G',R1,⟨rfl,rfl⟩,hr,NZ,st⟩:=he
  have V1:cv=.int .i64 (cf x y):=by cases hr; rfl
  subst V1
  have kU:∀ b,¬ Own R0 (fun _=>0) eZ b:=fun b ho=>by
   obtain ⟨id,ro,h1,_⟩:=eB ho
   simp [R0,nth] at h1
  refine ⟨rfl,zw ⟨st.os,st.tape,st.output,st.size,fun i hi=>st.bQ i hi (kU i)⟩ NZ.lo⟩
theorem DF {p:aA} (hp:p.flat=true):∀ es:List AV,allFit p.fits es=true→es=(es.map p.bh).map p.enc
 | [],_=>rfl
 | a :: es,h=>by
  simp only [allFit,Bool.and_eq_true] at h
  rw [List.map_cons,List.map_cons,← DF hp es h.2,aA.jy hp h.1]
theorem DG (L:SlLaysF0.n6 E.P ρ) (hp:Plain E.P (ρ.f 6)) (hc:Plain E.P c) (aE:∀ w,(isAgg (ρ.t 24)).run E.P w=.ok true w) (zE:∀ w,(Go.sizeOf (ρ.t 24)).run E.P w=.ok k w) (hC:su E.P E.cw c p k cf) (hE:E.lo=0) (H9:1≤k) {el:TypeId} (N6:E.gx=fun _=>false:=by rfl) :
  ∀ (args:List AV) (G:List GO) (r:AV) (G':List GO),Hc p cf k el c args G=some (true,r,G')→cO E (ρ.f 6) args G (fun r' Sf=>r'=r∧Sf=G'):=by
 intro args G r G' h
 unfold Hc at h
 split at h
 ·rename_i G1 oid f off sz1 len c'
  split at h
  ·rename_i es n5 Z5 hid
   split at h
   ·rename_i cC
    simp only [Bool.and_eq_true] at cC
    obtain ⟨⟨⟨⟨q1,q2⟩,q3⟩,q4⟩,q5⟩:=cC
    have q1:=Nat.eq_of_beq_eq_true q1
    have q2:=Nat.eq_of_beq_eq_true q2
    have q3:=Nat.eq_of_beq_eq_true q3
    have q4:=Nat.eq_of_beq_eq_true q4
    have q5:=Nat.eq_of_beq_eq_true q5
    subst q1; subst q2; subst q3; subst q4; subst q5
    injection h with h
    injection h with h1 h
    injection h with h2 h3
    subst h2; subst h3
    simp only [Bool.and_eq_true,decide_eq_true_eq] at h1
    obtain ⟨⟨⟨hf,Hd⟩,hbig⟩,uX⟩:=h1
    refine ⟨hp,fun R w cs hg hl=>callsIn_wide.2 ?_⟩
    cases hl with
    | @cons _ cv _ _ r1 hl=>
    cases hl with
    | @cons _ fv _ _ r2 hl=>
    cases hl
    cases r2 with
    | fn x1 x2=>
    cases x1; cases x2
    by_cases he:es=[]
    ·subst he
     obtain ⟨pa,cap,rfl⟩:∃ pa cap,cv=.slice pa 0 cap:=by
      have Hd:len=0:=Hd
      subst Hd
      cases r1 with
      | jm _ _=>exact ⟨_,_,rfl⟩
      | cR _ _ _=>exact ⟨_,_,rfl⟩
     refine (AnyF.slices_SortFunc_none (P:=E.P) (ρ:=ρ) L pa cap _ w).mono fun e w' ⟨e1,e2⟩=>?_
     subst e1; subst e2
     have Uv:kw p cf []=[]:=by simp [kw]
     have hG:ap G oid (.a7 (kw p cf []) n5 Z5)=G:=by rw [Uv]; exact lT hid
     rw [hG]
     exact ⟨.bH [],G,R,⟨rfl,rfl⟩,Rel.bH .nil,hg,Step.refl _ _ _ _⟩
    ·have pQ:0 < es.length:=List.length_pos_iff.2 he
     cases r1 with
     | jm _ _=>omega
     | @cR _ _ _ _ _ cap b o' ro bR dY iB=>
     subst hf; subst Hd
     obtain ⟨b',c',cur,vs,rfl,g1,g2,g3,g4,g5,g6,g7,g8,g9⟩:=mS hg hid bR (fun k=>by subst k; exact dY)
     obtain ⟨rfl,Em,wK⟩:=dY.2 rfl
     have pY:o'=0:=by
      rcases wK with wK | wK
      ·rw [wK,Nat.zero_mul]
      ·omega
     subst pY
     -- the elements by their leaves
     have A6:=DF hC.flat es uX
     generalize V7:es.map p.bh=xs at A6
     have hlen:xs.length=es.length:=by rw [← V7,List.length_map]
     have Zw:∀ (ys:List p.T),∀ a∈aq (ys.map p.enc),ib a=true:=fun ys=>by
      induction ys with
      | nil=>intro a ha; simp [aq] at ha
      | cons y ys ih=>
       intro a ha
       rw [List.map_cons,aq] at ha
       rcases List.mem_append.1 ha with ha | ha
       ·exact hC.IT y a ha
       ·exact ih a ha
     have Xv:vs=xs.flatMap (fV p):=by
      rw [A6] at g7
      rw [Au (Zw xs) g7,qQ]
     have hd:(xs.toArray).size=es.length:=by simpa using hlen
     have XZ:(flatK (fV p) n5 xs.toArray).toList=vs:=by rw [Av (yj hC),Xv]
     have NJ:(flatK (fV p) n5 xs.toArray).size=es.length * n5:=by rw [size_flatK,hd]
     have jh:cur.toList.length=c' * n5:=by rw [show cur.toList.length=cur.size from Array.length_toList,g5]
     have hle:es.length * n5≤c' * n5:=Nat.mul_le_mul_right _ g3
     have hH:HoldsK (fV p) n5 w b 0 xs.toArray:=by
      intro j hj
      rw [NJ] at hj
      refine ⟨?_,?_⟩
      ·have Uw:j < (flatK (fV p) n5 xs.toArray).size:=by rw [NJ]; exact hj
       rw [getElem!_pos (flatK (fV p) n5 xs.toArray) j Uw,Nat.zero_add,cell_of_row w b j cur Z5 (0,0) g2]
       have h1:cur[j]?=vs[j]?:=by
        rw [← g9,List.getElem?_take,if_pos hj,← Array.getElem?_toList]
       rw [h1,← XZ,Array.getElem?_toList,Array.getElem?_eq_getElem Uw]
       rfl
      ·unfold World.frozen?
       rw [g2]
       simp
     have hCL:=LJ N6 hC hg g2 g6 xs.toArray.size
     have key:=AnyQ.slices_SortFunc_total L n5 aE zE (fV p) (yj hC) (fun x v hv=>by
      obtain ⟨a,ha,rfl⟩:=List.mem_map.1 hv
      exact yi (hC.IT x a ha)) cf hC.swo c #[] b 0 cap xs.toArray w (na hc) hCL hH (bo g2) (by rw [hd]; omega) hC.tot
     rw [hd] at key
     refine key.mono fun e w' ⟨e1,n,os,e2⟩=>?_
     subst e1
     -- the world behind
     have e3:putRowK (fV p) n5 (Sort.ahead w n) b 0 (xs.mergeSort fun x y=>!(ltOf cf) y x).toArray=(Sort.ahead w n).setRow b (putCells (fun v=>v) 0 (flatK (fV p) n5 (xs.mergeSort fun x y=>!(ltOf cf) y x).toArray) cur):=sw (w:=Sort.ahead w n) g2 _
     have e4:w'=Sort.grow ((Sort.ahead w n).setRow b (putCells (fun v=>v) 0 (flatK (fV p) n5 (xs.mergeSort fun x y=>!(ltOf cf) y x).toArray) cur)) os:=by
      rw [e2]
      unfold sortWorldK
      rw [e3]
     clear e2 e3 key
     generalize V8:(xs.mergeSort fun x y=>!(ltOf cf) y x)=ys at e4
     have ZO:ys.length=es.length:=by rw [← V8,List.length_mergeSort,hlen]
     have hso:kw p cf es=ys.map p.enc:=by unfold kw; rw [V7,V8]
     rw [hso]
     have hfy:(flatK (fV p) n5 ys.toArray).toList=ys.flatMap (fV p):=by rw [Av (yj hC)]
     have X0:(flatK (fV p) n5 ys.toArray).size=es.length * n5:=by rw [size_flatK]; simp [ZO]
     have Ux:(putCells (fun v=>v) 0 (flatK (fV p) n5 ys.toArray) cur).size=cur.size:=by simp [putCells]
     have Ib:(putCells (fun v=>v) 0 (flatK (fV p) n5 ys.toArray) cur).toList.take (es.length * n5)=ys.flatMap (fV p):=by
      rw [← hfy]
      apply List.ext_getElem?
      intro t
      rw [List.getElem?_take]
      by_cases ht:t < es.length * n5
      ·have h1:t < (flatK (fV p) n5 ys.toArray).size:=by rw [X0]; exact ht
       have h2:t < cur.size:=by rw [g5]; omega
       rw [if_pos ht,Array.getElem?_toList,Array.getElem?_toList,Array.getElem?_eq_getElem h1,Array.getElem?_eq_getElem (by rw [Ux]; exact h2)]
       simp only [putCells,Array.getElem_mapIdx,Nat.zero_le,Nat.zero_add,h1,and_self,if_true,Nat.sub_zero]
       rw [getElem!_pos (flatK (fV p) n5 ys.toArray) t h1]
      ·rw [if_neg ht,List.getElem?_eq_none (by rw [Array.length_toList,X0]; omega)]
     generalize putCells (fun v=>v) 0 (flatK (fV p) n5 ys.toArray) cur=cur2 at e4 Ux Ib
     have Tf:∀ v∈ys.flatMap (fV p),v.oneCell'=true:=fun v hv=>by
      obtain ⟨y,_,hy⟩:=List.mem_flatMap.1 hv
      obtain ⟨a,ha,rfl⟩:=List.mem_map.1 hy
      exact yi (hC.IT y a ha)
     have qt:dq n5 (ys.map p.enc):=fun a ha=>by
      obtain ⟨y,_,rfl⟩:=List.mem_map.1 ha
      refine ⟨hC.size y,?_⟩
      obtain ⟨cs,qv⟩:=hC.agg y
      rw [qv]; rfl
     have dZ:aK R w (aq (ys.map p.enc)) (ys.flatMap (fV p)):=by
      rw [← qQ]
      exact tJ (Zw ys)
     have da:bi E R w (fun _=>0) ⟨[],[],G,[],none,0⟩ (⟨#[],[]⟩:Act):=
      ⟨hg,⟨fun k cs h=>by simp [dS] at h,fun k k' cs eV h=>by simp [dS] at h⟩,fun i hi=>absurd rfl hi,rfl,trivial⟩
     obtain ⟨k1,k2⟩:=da.EY (es':=ys.map p.enc) hid bR g2 (by rw [List.length_map,ZO]) qt Ux dZ Tf Ib
     have LL:Below (w.setRow b cur2).heap.size (w.setRow b cur2) w':=by
      rw [e4]
      refine ⟨rfl,rfl,rfl,?_,fun i hi=>?_⟩
      ·show _≤((w.setRow b cur2).heap++os).size
       rw [Array.size_append]; exact Nat.le_add_right _ _
      ·show ((w.setRow b cur2).heap++os)[i]?=_
       rw [Array.getElem?_append_left hi]
     exact ⟨.bH [],_,R,⟨rfl,rfl⟩,Rel.bH .nil,Below.XM LL k1.g hE,k2.trans (Below.Sq LL k1.g.wf)⟩
   ·cases h
  ·cases h
 ·cases h
end
end Go.Am
namespace Go.Am
open Go
def tO (f:Nat→Nat) (e:Nat × Nat):Nat→Nat:=fun i=>if f i=max (f e.1) (f e.2) then min (f e.1) (f e.2) else f i
def nR (es:List (Nat × Nat)):Nat→Nat:=es.foldl tO id
structure iG (f:Nat→Nat):Prop where
 le:∀ i,f i≤i
 idem:∀ i,f (f i)=f i
theorem Mk:iG id:=⟨fun _=>Nat.le_refl _,fun _=>rfl⟩
theorem iG.tO {f:Nat→Nat} (h:iG f) (e:Nat × Nat):iG (tO f e):=by
 have ha:=h.idem e.1
 have hb:=h.idem e.2
 refine ⟨fun i=>?_,fun i=>?_⟩
 ·have:=h.le i
  unfold Go.Am.tO
  split <;> omega
 ·have hi:=h.idem i
  unfold Go.Am.tO
  generalize f e.1=a at *
  generalize f e.2=b at *
  have hm:f (min a b)=min a b:=by rcases Nat.le_total a b with h | h <;> simp [Nat.min_eq_left,Nat.min_eq_right,h,ha,hb]
  by_cases h1:f i=max a b
  ·rw [if_pos h1,hm]
   split <;> omega
  ·rw [if_neg h1,hi,if_neg h1]
theorem uM:∀ (es:List (Nat × Nat)) {f:Nat→Nat},iG f→iG (es.foldl tO f)
 | [],_,h=>h
 | e :: es,_,h=>uM es (h.tO e)
theorem qX (es:List (Nat × Nat)):iG (nR es):=uM es Mk
theorem DM {f:Nat→Nat} {i j:Nat} (e:Nat × Nat) (h:f i=f j):tO f e i=tO f e j:=by unfold tO; rw [h]
theorem Ml {f:Nat→Nat} (e:Nat × Nat):tO f e e.1=tO f e e.2:=by
 unfold tO
 split <;> split <;> omega
theorem yu:∀ (es:List (Nat × Nat)) {f:Nat→Nat} {i j:Nat},f i=f j→es.foldl tO f i=es.foldl tO f j
 | [],_,_,_,h=>h
 | e :: es,_,_,_,h=>yu es (DM e h)
theorem yw:∀ (es:List (Nat × Nat)) {f:Nat→Nat} {e:Nat × Nat},e∈es→es.foldl tO f e.1=es.foldl tO f e.2
 | d :: es,f,e,h=>by
  rcases List.mem_cons.1 h with rfl | h
  ·exact yu es (Ml _)
  ·exact yw es h
theorem DN {es:List (Nat × Nat)} {e:Nat × Nat} (h:e∈es):nR es e.1=nR es e.2:=yw es h
theorem F6 {f:Nat→Nat} {S:Nat→Prop} {e:Nat × Nat} (he:S e.1↔S e.2) (h:∀ i j,f i=f j→(S i↔S j)):∀ i j,tO f e i=tO f e j→(S i↔S j):=by
 intro i j Rc
 have key:∀ k,f k=max (f e.1) (f e.2)∨f k=min (f e.1) (f e.2)→(S k↔S e.1):=by
  intro k hk
  have:f k=f e.1∨f k=f e.2:=by omega
  rcases this with h1 | h1
  ·exact h k e.1 h1
  ·exact (h k e.2 h1).trans he.symm
 unfold tO at Rc
 split at Rc <;> split at Rc
 ·exact (key i (by omega)).trans (key j (by omega)).symm
 ·exact (key i (by omega)).trans (key j (by omega)).symm
 ·exact (key i (by omega)).trans (key j (by omega)).symm
 ·exact h i j Rc
theorem sI {S:Nat→Prop}:∀ (es:List (Nat × Nat)) {f:Nat→Nat},(∀ e∈es,S e.1↔S e.2)→(∀ i j,f i=f j→(S i↔S j))→∀ i j,es.foldl tO f i=es.foldl tO f j→(S i↔S j)
 | [],_,_,h=>h
 | e :: es,_,he,h=>sI es (fun d hd=>he d (by simp [hd])) (F6 (he e (by simp)) h)
theorem yx {S:Nat→Prop} {es:List (Nat × Nat)} (he:∀ e∈es,S e.1↔S e.2) {i j:Nat} (h:nR es i=nR es j):S i↔S j:=
 sI es he (fun i j h=>by have h:i=j:=h; rw [h]) i j h
structure UF (f:Nat→Nat) (n:Nat) (u:Nat→Nat):Prop where
 le:∀ i,i < n→u i≤i
 lb:∀ i,i < n→f (u i)=f i
 fix:∀ i,i < n→u i=i→f i=i
def zB (u:Nat→Nat) (i v:Nat):Nat→Nat:=fun j=>if j=i then v else u j
theorem fM (u:Nat→Nat) (i v:Nat):zB u i v i=v:=if_pos rfl
theorem qY {u:Nat→Nat} {i v j:Nat} (h:j≠i):zB u i v j=u j:=if_neg h
theorem UF.id (n:Nat):UF id n id:=⟨fun _ _=>Nat.le_refl _,fun _ _=>rfl,fun _ _ _=>rfl⟩
theorem UF.half {f u:Nat→Nat} {n i:Nat} (h:UF f n u) (hi:i < n) (cL:u i≠i):UF f n (zB u i (u (u i))):=by
 have h1:=h.le i hi
 have h2:=h.le (u i) (by omega)
 have e1:f (u (u i))=f i:=(h.lb (u i) (by omega)).trans (h.lb i hi)
 refine ⟨fun j hj=>?_,fun j hj=>?_,fun j hj hf=>?_⟩
 ·by_cases e:j=i
  ·subst e; rw [fM]; omega
  ·rw [qY e]; exact h.le j hj
 ·by_cases e:j=i
  ·subst e; rw [fM]; exact e1
  ·rw [qY e]; exact h.lb j hj
 ·by_cases e:j=i
  ·subst e; rw [fM] at hf; omega
  ·rw [qY e] at hf; exact h.fix j hj hf
theorem UF.join {f u:Nat→Nat} {n:Nat} (h:UF f n u) (hf:iG f) (e:Nat × Nat) (h1:e.1 < n) (h2:e.2 < n):UF (tO f e) n (zB u (max (f e.1) (f e.2)) (min (f e.1) (f e.2))):=by
 have k1:=hf.le e.1
 have k2:=hf.le e.2
 have i1:=hf.idem e.1
 have i2:=hf.idem e.2
 have j1:=h.le (f e.1) (by omega)
 have j2:=h.le (f e.2) (by omega)
 have hm:f (min (f e.1) (f e.2))=min (f e.1) (f e.2):=by rcases Nat.le_total (f e.1) (f e.2) with h | h <;> simp [Nat.min_eq_left,Nat.min_eq_right,h,i1,i2]
 have hM:f (max (f e.1) (f e.2))=max (f e.1) (f e.2):=by rcases Nat.le_total (f e.1) (f e.2) with h | h <;> simp [Nat.max_eq_left,Nat.max_eq_right,h,i1,i2]
 refine ⟨fun j hj=>?_,fun j hj=>?_,fun j hj Uw=>?_⟩
 ·by_cases c:j=max (f e.1) (f e.2)
  ·subst c; rw [fM]; omega
  ·rw [qY c]; exact h.le j hj
 ·by_cases c:j=max (f e.1) (f e.2)
  ·subst c
   rw [fM]
   unfold tO
   rw [hM,hm,if_pos rfl]
   split <;> omega
  ·rw [qY c]
   exact DM e (h.lb j hj)
 ·by_cases c:j=max (f e.1) (f e.2)
  ·subst c
   rw [fM] at Uw
   unfold tO
   rw [hM,if_pos rfl,Uw]
  ·rw [qY c] at Uw
   have:=h.fix j hj Uw
   unfold tO
   rw [this,if_neg c]
def DO (p:Nat→Nat) (e:Nat × Nat):Nat→Nat:=zB (zB p e.1 (min (p e.1) (p e.2))) e.2 (min (p e.1) (p e.2))
def Vy (es:List (Nat × Nat)) (p:Nat→Nat):Nat→Nat:=es.foldl DO p
structure qZ (f p:Nat→Nat):Prop where
 le:∀ i,p i≤i
 lb:∀ i,f (p i)=f i
theorem Mm (p:Nat→Nat) (e:Nat × Nat) (i:Nat):DO p e i≤p i:=by
 unfold DO zB
 split
 ·subst i; omega
 ·split
  ·subst i; omega
  ·omega
theorem qZ.step {f p:Nat→Nat} (h:qZ f p) {e:Nat × Nat} (he:f e.1=f e.2):qZ f (DO p e):=by
 refine ⟨fun i=>Nat.le_trans (Mm p e i) (h.le i),fun i=>?_⟩
 have hm:f (min (p e.1) (p e.2))=f e.1:=by
  rcases Nat.le_total (p e.1) (p e.2) with c | c
  ·rw [Nat.min_eq_left c]; exact h.lb e.1
  ·rw [Nat.min_eq_right c,h.lb e.2]; exact he.symm
 unfold DO zB
 split
 ·subst i; rw [hm]; exact he
 ·split
  ·subst i; exact hm
  ·exact h.lb i
theorem qZ.round {f:Nat→Nat}:∀ (es:List (Nat × Nat)) {p:Nat→Nat},qZ f p→(∀ e∈es,f e.1=f e.2)→qZ f (Vy es p)
 | [],_,h,_=>h
 | e :: es,_,h,he=>qZ.round es (h.step (he e (by simp))) fun d hd=>he d (by simp [hd])
end Go.Am
namespace Go.Am
open Go
section
variable {κ ν:Type} [DecidableEq κ]
def getM (k:κ):List (κ × ν)→Option ν
 | []=>none
 | (k',v) :: m=>if k=k' then some v else getM k m
def sJ (k:κ) (v:ν):List (κ × ν)→List (κ × ν)
 | []=>[(k,v)]
 | (k',v') :: m=>if k=k' then (k,v) :: m else (k',v') :: sJ k v m
theorem sK (k k':κ) (v:ν):∀ m:List (κ × ν),getM k' (sJ k v m)=if k'=k then some v else getM k' m
 | []=>rfl
 | (k1,v1) :: m=>by
  unfold sJ
  by_cases h:k=k1
  ·subst h
   rw [if_pos rfl]
   by_cases h2:k'=k
   ·simp [getM,h2]
   ·simp [getM,h2]
  ·rw [if_neg h]
   by_cases h2:k'=k1
   ·subst h2
    have h3:¬ k'=k:=fun e=>h e.symm
    simp [getM,h3]
   ·simp only [getM,if_neg h2]
    exact sK k k' v m
theorem DP {k:κ} {v:ν}:∀ {m:List (κ × ν)},getM k m=none→sJ k v m=m++[(k,v)]
 | [],_=>rfl
 | (k1,v1) :: m,h=>by
  unfold getM at h
  split at h
  ·cases h
  ·rename_i cL
   unfold sJ
   rw [if_neg cL,DP h]
   rfl
theorem AA (k:κ) (l:List κ):getM k (l.map fun x=>(x,true))=if k∈l then some true else none:=by
 induction l with
 | nil=>rfl
 | cons a l ih=>
  simp only [List.map_cons,getM,ih,List.mem_cons]
  by_cases h:k=a
  ·simp [h]
  ·simp [h]
structure iy (ek:EK) (nk:κ→AV) (nv:ν→AV) (nM:κ × ν→AV):Prop where
 key:∀ a b,El ek (nk a) (nk b)=some (decide (a=b))
 pair:∀ x,nM x=.agg [nk x.1,nv x.2]
 exact:∀ x,(nM x).exact=true
variable {ek:EK} {nk:κ→AV} {nv:ν→AV} {nM:κ × ν→AV} (h:iy ek nk nv nM)
include h
theorem iy.keys (k:κ):∀ m:List (κ × ν),cH ek (nk k) (aB (List.map nM m))=true
 | []=>rfl
 | x :: m=>by
  have:=iy.keys k m
  rw [List.map_cons,h.pair,aB]
  show ((El ek (nk k) (nk x.1)).isSome&&cH ek (nk k) (aB (List.map nM m)))=true
  rw [this,h.key]
  rfl
theorem iy.get (k:κ):∀ m:List (κ × ν),dz ek (nk k) (aB (List.map nM m))=(getM k m).map nv
 | []=>rfl
 | x :: m=>by
  have ih:=iy.get k m
  rw [List.map_cons,h.pair,aB]
  show (bif yT ek (nk k) (nk x.1) then some (nv x.2) else dz ek (nk k) (aB (List.map nM m)))=(if k=x.1 then some x.2 else getM k m).map nv
  unfold yT
  rw [h.key,ih]
  by_cases e:k=x.1
  ·simp [e]
  ·simp [e]
theorem iy.getD (k:κ) (z:ν) (m:List (κ × ν)):bf ek (nk k) (nv z) (aB (List.map nM m))=nv ((getM k m).getD z):=by
 unfold bf
 rw [h.get]
 cases getM k m <;> rfl
theorem iy.put (k:κ) (v:ν):∀ m:List (κ × ν),er ek (nk k) (nv v) (aB (List.map nM m))=aB (List.map nM (sJ k v m))
 | []=>by
  show [(nk k,nv v)]=aB [nM (k,v)]
  rw [h.pair]
  rfl
 | x :: m=>by
  have ih:=iy.put k v m
  rw [List.map_cons,h.pair,aB]
  show (bif yT ek (nk k) (nk x.1) then (nk k,nv v) :: aB (List.map nM m) else (nk x.1,nv x.2) :: er ek (nk k) (nv v) (aB (List.map nM m)))=aB (List.map nM (if k=x.1 then (k,v) :: m else (x.1,x.2) :: sJ k v m))
  unfold yT
  rw [h.key,ih]
  by_cases e:k=x.1
  ·simp only [e,decide_true,cond_true,if_true,List.map_cons]
   rw [h.pair (x.1,v),aB]
   rfl
  ·simp only [e,decide_false,cond_false,if_false,List.map_cons]
   rw [h.pair (x.1,x.2),aB]
   rfl
theorem iy.cells:∀ m:List (κ × ν),ah (aB (List.map nM m))=List.map nM m
 | []=>rfl
 | x :: m=>by
  have ih:=iy.cells m
  rw [List.map_cons,h.pair,aB]
  show AV.agg [nk x.1,nv x.2] :: ah (aB (List.map nM m))=_
  rw [ih]
theorem iy.jw (m:List (κ × ν)):Go.Am.jw (aB (List.map nM m))=true:=by
 unfold Go.Am.jw
 rw [h.cells]
 induction m with
 | nil=>rfl
 | cons x m ih=>rw [List.map_cons,fI,ih,h.exact]; rfl
end
theorem Re (k:IntKind) (a b:Int):El .int (.int k a) (.int k b)=some (decide (a=b)):=by
 unfold El
 simp only [kN,if_true]
 by_cases h:a=b
 ·subst h; simp [EK.wide]
 ·have:(a == b)=false:=by simpa using h
  rw [this]; simp [h]
theorem AB (a b:Int × Int × Int):El (.st (.cons 0 1 false .int (.cons 1 2 true (.st (.cons 0 1 false .int (.cons 1 1 false .int .nil))) .nil))) (.agg [.int .i64 a.1,.int .i64 a.2.1,.int .i64 a.2.2]) (.agg [.int .i64 b.1,.int .i64 b.2.1,.int .i64 b.2.2])=some (decide (a=b)):=by
 obtain ⟨a1,a2,a3⟩:=a
 obtain ⟨b1,b2,b3⟩:=b
 have e:kN (.st (.cons 0 1 false .int (.cons 1 2 true (.st (.cons 0 1 false .int (.cons 1 1 false .int .nil))) .nil))) (.agg [.int .i64 a1,.int .i64 a2,.int .i64 a3]) (.agg [.int .i64 b1,.int .i64 b2,.int .i64 b3])=some ((a1 == b1)&&((((a2 == b2)&&((a3 == b3)&&true)))&&true)):=rfl
 unfold El
 rw [e]
 by_cases h1:a1=b1 <;> by_cases h2:a2=b2 <;> by_cases h3:a3=b3
 ·subst h1; subst h2; subst h3
  simp [EK.wide,mJ,n9,rC]
 all_goals simp [h1,h2,h3]
end Go.Am
namespace Go.Am
open Go Go.Sort
section
variable {α:Type} [DecidableEq α] {lt:α→α→Bool}
def Rh (lt:α→α→Bool) (l:List α):Prop:=l.Pairwise fun x y=>lt x y=true
omit [DecidableEq α] in
theorem Hy (hw:SWO lt):∀ {a b:List α},Rh lt a→Rh lt b→(∀ x,x∈a↔x∈b)→a=b
 | [],[],_,_,_=>rfl
 | [],y :: b,_,_,h=>by have:=(h y).2 (by simp); simp at this
 | x :: a,[],_,_,h=>by have:=(h x).1 (by simp); simp at this
 | x :: a,y :: b,ha,hb,h=>by
  have ha':=List.pairwise_cons.1 ha
  have kT:=List.pairwise_cons.1 hb
  have hxy:x=y:=by
   have h1:=(h x).1 (by simp)
   have h2:=(h y).2 (by simp)
   rcases List.mem_cons.1 h1 with h1 | h1
   ·exact h1
   ·rcases List.mem_cons.1 h2 with h2 | h2
    ·exact h2.symm
    ·have l1:=kT.1 x h1
     have l2:=ha'.1 y h2
     have:=hw.trans _ _ _ l1 l2
     rw [hw.irrefl] at this
     cases this
  subst hxy
  congr 1
  refine Hy hw ha'.2 kT.2 fun z=>?_
  constructor
  ·intro hz
   rcases List.mem_cons.1 ((h z).1 (by simp [hz])) with rfl | h2
   ·have:=ha'.1 z hz
    rw [hw.irrefl] at this
    cases this
   ·exact h2
  ·intro hz
   rcases List.mem_cons.1 ((h z).2 (by simp [hz])) with rfl | h2
   ·have:=kT.1 z hz
    rw [hw.irrefl] at this
    cases this
   ·exact h2
def yB (d:α) (l:List α):Nat→List α
 | 0=>[]
 | m+1=>if 0 < m∧l.getD m d=l.getD (m - 1) d then yB d l m else yB d l m++[l.getD m d]
theorem sM (d:α) (l:List α):∀ m,m≤l.length→(∀ k,0 < k→k < m→l.getD k d≠l.getD (k - 1) d)→yB d l m=l.take m
 | 0,_,_=>by simp [yB]
 | m+1,hm,h=>by
  have e:l.getD m d=l[m]:=by simp [show m < l.length by omega]
  unfold yB
  rw [if_neg (fun c=>h m c.1 (by omega) c.2),sM d l m (by omega) fun k h1 h2=>h k h1 (by omega),e,List.take_succ,List.getElem?_eq_getElem (by omega)]
  rfl
theorem BT (d:α) (l:List α):∀ m,m≤l.length→∀ x,x∈yB d l m↔x∈l.take m
 | 0,_,x=>by simp [yB]
 | m+1,hm,x=>by
  have e:l.getD m d=l[m]:=by simp [show m < l.length by omega]
  have ih:=BT d l m (by omega)
  have et:l.take (m+1)=l.take m++[l[m]]:=by rw [List.take_succ,List.getElem?_eq_getElem (by omega)]; rfl
  unfold yB
  rw [et]
  split
  ·rename_i hc
   rw [ih,List.mem_append,List.mem_singleton]
   constructor
   ·exact .inl
   ·rintro (h | rfl)
    ·exact h
    ·have e2:l.getD (m - 1) d=l[m - 1]:=by simp [show m - 1 < l.length by omega]
     rw [e,e2] at hc
     rw [hc.2,List.mem_take_iff_getElem]
     exact ⟨m - 1,by omega,rfl⟩
  ·rw [List.mem_append,List.mem_append,ih,e]
theorem Hz (hw:SWO lt) (ht:∀ x y,lt x y=false→lt y x=false→x=y) (d:α) (l:List α) (hs:l.Pairwise fun x y=>lt y x=false):∀ m,m≤l.length→Rh lt (yB d l m)
 | 0,_=>List.Pairwise.nil
 | m+1,hm=>by
  have ih:=Hz hw ht d l hs m (by omega)
  have e:l.getD m d=l[m]:=by simp [show m < l.length by omega]
  unfold yB
  split
  ·exact ih
  ·rename_i hc
   refine List.pairwise_append.2 ⟨ih,List.pairwise_singleton _ _,fun x hx y hy=>?_⟩
   rw [List.mem_singleton] at hy
   subst hy
   have wq:=(BT d l m (by omega) x).1 hx
   obtain ⟨k,hk,rfl⟩:=List.mem_take_iff_getElem.1 wq
   have Ri:k < m:=by omega
   rw [e] at hc ⊢
   have h1:lt l[m] l[k]=false:=List.pairwise_iff_getElem.1 hs k m (by omega) (by omega) Ri
   cases hl:lt l[k] l[m] with
   | true=>rfl
   | false=>
    exfalso
    have jP:=ht _ _ hl h1
    -- the one before is between
    have h0:0 < m:=by omega
    have e2:l.getD (m - 1) d=l[m - 1]:=by simp [show m - 1 < l.length by omega]
    rw [e2] at hc
    apply hc
    refine ⟨h0,?_⟩
    have h2:lt l[m] l[m - 1]=false:=List.pairwise_iff_getElem.1 hs (m - 1) m (by omega) (by omega) (by omega)
    refine ht _ _ h2 ?_
    by_cases hkm:k=m - 1
    ·subst hkm; exact hl
    ·have h3:lt l[m - 1] l[k]=false:=List.pairwise_iff_getElem.1 hs k (m - 1) (by omega) (by omega) (by omega)
     rw [← jP]
     exact h3
def mw (lt:α→α→Bool) (d:α) (k:α) (l:List α):List α:=
 let at_:=(l.takeWhile fun x=>lt x k).length
 if at_=l.length∨l.getD at_ d≠k then l.take at_++[k]++l.drop at_ else l
omit [DecidableEq α] in
theorem gI (p:α→Bool):∀ l:List α,(∀ x∈l.take (l.takeWhile p).length,p x=true)∧∀ h:(l.takeWhile p).length < l.length,p l[(l.takeWhile p).length]=false
 | []=>by simp
 | a :: l=>by
  obtain ⟨h1,h2⟩:=gI p l
  by_cases ha:p a=true
  ·simp only [List.takeWhile_cons,ha,if_true,List.length_cons,List.take_succ_cons,List.mem_cons,forall_eq_or_imp,true_and,List.getElem_cons_succ]
   exact ⟨h1,fun h=>h2 (by omega)⟩
  ·simp only [List.takeWhile_cons,if_neg ha,List.length_nil,List.take_zero]
   refine ⟨by simp,fun _=>?_⟩
   rw [List.getElem_cons_zero]
   exact Bool.eq_false_iff.2 ha
theorem Ms (d:α) (k:α) (l:List α) (x:α):x∈mw lt d k l↔x=k∨x∈l:=by
 unfold mw
 simp only
 have hle:(l.takeWhile fun x=>lt x k).length≤l.length:=(List.takeWhile_sublist _).length_le
 generalize (l.takeWhile fun x=>lt x k).length=a at *
 have e:x∈l↔x∈l.take a∨x∈l.drop a:=by rw [← List.mem_append,List.take_append_drop]
 split
 ·simp only [List.mem_append,List.mem_singleton]
  rw [e]
  constructor
  ·rintro ((h | h) | h)
   ·exact .inr (.inl h)
   ·exact .inl h
   ·exact .inr (.inr h)
  ·rintro (h | h | h)
   ·exact .inl (.inr h)
   ·exact .inl (.inl h)
   ·exact .inr h
 ·rename_i h
  rw [not_or,Decidable.not_not] at h
  constructor
  ·exact .inr
  ·rintro (rfl | h2)
   ·have hl:a < l.length:=by omega
    have e2:l.getD a d=l[a]:=by simp [hl]
    rw [e2] at h
    rw [← h.2]
    exact List.getElem_mem hl
   ·exact h2
theorem Mt (hw:SWO lt) (ht:∀ x y,lt x y=false→lt y x=false→x=y) (d:α) (k:α) (l:List α) (hl:Rh lt l):Rh lt (mw lt d k l):=by
 unfold mw
 simp only
 obtain ⟨h1,h2⟩:=gI (fun x=>lt x k) l
 have hle:(l.takeWhile fun x=>lt x k).length≤l.length:=(List.takeWhile_sublist _).length_le
 generalize (l.takeWhile fun x=>lt x k).length=a at *
 have hp:=List.pairwise_iff_getElem.1 hl
 split
 ·rename_i hc
  have JL:∀ y∈l.drop a,lt k y=true:=by
   intro y hy
   obtain ⟨j,hj,rfl⟩:=List.getElem_of_mem hy
   rw [List.length_drop] at hj
   rw [List.getElem_drop]
   have GQ:a < l.length:=by omega
   have e2:l.getD a d=l[a]:=by simp [GQ]
   have hka:lt k l[a]=true:=by
    cases hh:lt k l[a] with
    | true=>rfl
    | false=>
     have:=ht _ _ (h2 GQ) hh
     rcases hc with hc | hc
     ·omega
     ·rw [e2] at hc; exact absurd this hc
   by_cases h0:j=0
   ·subst h0; simpa using hka
   ·exact hw.trans _ _ _ hka (hp a (a+j) GQ (by omega) (by omega))
  unfold Rh
  rw [List.append_assoc,List.pairwise_append]
  refine ⟨hl.take,?_,fun x hx y hy=>?_⟩
  ·rw [List.singleton_append,List.pairwise_cons]
   exact ⟨JL,hl.drop⟩
  ·rw [List.singleton_append] at hy
   have hxk:=h1 x hx
   rcases List.mem_cons.1 hy with rfl | hy
   ·exact hxk
   ·exact hw.trans _ _ _ hxk (JL y hy)
 ·exact hl
def yC (lt:α→α→Bool) (d:α) (l:List α):List α:=l.foldl (fun s k=>mw lt d k s) []
theorem my (hw:SWO lt) (ht:∀ x y,lt x y=false→lt y x=false→x=y) (d:α) (l:List α):Rh lt (yC lt d l)∧∀ x,x∈yC lt d l↔x∈l:=by
 have gen:∀ (l s:List α),Rh lt s→Rh lt (l.foldl (fun s k=>mw lt d k s) s)∧∀ x,x∈l.foldl (fun s k=>mw lt d k s) s↔x∈s∨x∈l:=by
  intro l
  induction l with
  | nil=>intro s hs; exact ⟨hs,fun x=>by simp⟩
  | cons k l ih=>
   intro s hs
   rw [List.foldl_cons]
   obtain ⟨h1,h2⟩:=ih _ (Mt hw ht d k s hs)
   refine ⟨h1,fun x=>?_⟩
   rw [h2,Ms,List.mem_cons]
   constructor
   ·rintro ((h | h) | h)
    ·exact .inr (.inl h)
    ·exact .inl h
    ·exact .inr (.inr h)
   ·rintro (h | h | h)
    ·exact .inl (.inr h)
    ·exact .inl (.inl h)
    ·exact .inr h
 obtain ⟨h1,h2⟩:=gen l [] List.Pairwise.nil
 exact ⟨h1,fun x=>by rw [show yC lt d l=l.foldl (fun s k=>mw lt d k s) [] from rfl,h2]; simp⟩
theorem sN (d:α) (k:α) (l:List α):(mw lt d k l).length≤l.length+1:=by
 unfold mw
 simp only
 split
 ·simp; omega
 ·omega
omit [DecidableEq α] in
theorem Mu (hw:SWO lt) (l:List α):(l.mergeSort fun x y=>!lt y x).Pairwise (fun x y=>lt y x=false)∧∀ x,x∈(l.mergeSort fun x y=>!lt y x)↔x∈l:=by
 refine ⟨?_,fun x=>(List.mergeSort_perm l _).mem_iff⟩
 have h:=List.pairwise_mergeSort (le:=fun x y=>!lt y x) (fun a b c h1 h2=>by
  simp only [Bool.not_eq_true'] at h1 h2 ⊢
  exact hw.ntrans _ _ _ h2 h1) (fun a b=>by
  simp only [Bool.or_eq_true,Bool.not_eq_true']
  cases h1:lt b a with
  | false=>exact .inl rfl
  | true=>
   right
   cases h2:lt a b with
   | false=>rfl
   | true=>
    have:=hw.trans _ _ _ h1 h2
    rw [hw.irrefl] at this
    cases this) l
 exact h.imp fun hab=>by simpa using hab
theorem VE (hw:SWO lt) (ht:∀ x y,lt x y=false→lt y x=false→x=y) (d:α) (l:List α):yB d (l.mergeSort fun x y=>!lt y x) l.length=yC lt d l:=by
 obtain ⟨s1,s2⟩:=Mu hw l
 have hlen:(l.mergeSort fun x y=>!lt y x).length=l.length:=List.length_mergeSort _
 obtain ⟨i1,i2⟩:=my hw ht d l
 refine Hy hw (Hz hw ht d _ s1 _ (Nat.le_of_eq hlen.symm)) i1 fun x=>?_
 rw [BT d _ _ (Nat.le_of_eq hlen.symm),List.take_of_length_le (Nat.le_of_eq hlen),s2,i2]
end
theorem hX {V X S:Type} {rd:V→Option (V ⊕ X)} (m:Nat) (E:S→Nat→V) (P:S→Nat→Prop) (Q:X→Prop)
  (h:∀ s k,k < m→P s k→∃ s',rd (E s k)=some (.inl (E s' (k+1)))∧P s' (k+1))
  (h0:∀ s,P s m→∃ x,rd (E s m)=some (.inr x)∧Q x) :
  ∀ n s k,k≤m→m < n+k→P s k→∃ x,ak rd n (E s k)=some x∧Q x
 | 0,s,k,hk,hn,_=>by omega
 | n+1,s,k,hk,hn,hP=>by
  rw [bt]
  by_cases bP:k < m
  ·obtain ⟨s',e,hP'⟩:=h s k bP hP
   rw [e]
   exact hX m E P Q h h0 n s' (k+1) bP (by omega) hP'
  ·obtain rfl:k=m:=by omega
   obtain ⟨x,e,hQ⟩:=h0 s hP
   rw [e]
   exact ⟨x,rfl,hQ⟩
theorem AD {V X S:Type} {rd:V→Option (V ⊕ X)} (m:Nat) (E:S→Nat→V) (P:S→Nat→Prop) (Q:X→Prop)
  (h:∀ s k,k < m→P s k→(∃ s',rd (E s k)=some (.inl (E s' (k+1)))∧P s' (k+1))∨∃ x,rd (E s k)=some (.inr x)∧Q x)
  (h0:∀ s,P s m→∃ x,rd (E s m)=some (.inr x)∧Q x) :
  ∀ n s k,k≤m→m < n+k→P s k→∃ x,ak rd n (E s k)=some x∧Q x
 | 0,s,k,hk,hn,_=>by omega
 | n+1,s,k,hk,hn,hP=>by
  rw [bt]
  by_cases bP:k < m
  ·rcases h s k bP hP with ⟨s',e,hP'⟩ | ⟨x,e,hQ⟩
   ·rw [e]
    exact AD m E P Q h h0 n s' (k+1) bP (by omega) hP'
   ·rw [e]
    exact ⟨x,rfl,hQ⟩
  ·obtain rfl:k=m:=by omega
   obtain ⟨x,e,hQ⟩:=h0 s hP
   rw [e]
   exact ⟨x,rfl,hQ⟩
theorem HA {α:Type} (l:List α) (p:α→Bool) (d:α):(match (List.range l.length).find? fun j=>!p (l.getD j d) with | some j=>(j:Int) | none=>(l.length:Int))=((l.takeWhile p).length:Int):=by
 obtain ⟨h1,h2⟩:=gI p l
 have hle:(l.takeWhile p).length≤l.length:=(List.takeWhile_sublist _).length_le
 generalize (l.takeWhile p).length=a at *
 have adO:∀ j,j < a→p (l.getD j d)=true:=fun j hj=>by
  have e:l.getD j d=l[j]:=by simp [show j < l.length by omega]
  rw [e]
  exact h1 _ (List.mem_take_iff_getElem.2 ⟨j,by omega,rfl⟩)
 cases hf:(List.range l.length).find? fun j=>!p (l.getD j d) with
 | none=>
  rw [List.find?_eq_none] at hf
  have:¬ a < l.length:=fun bP=>by
   have e:l.getD a d=l[a]:=by simp [bP]
   have:=hf a (List.mem_range.2 bP)
   rw [e,h2 bP] at this
   simp at this
  show (l.length:Int)=(a:Int)
  omega
 | some j=>
  have hj:=List.mem_range.1 (List.mem_of_find?_eq_some hf)
  have hp:=List.find?_some hf
  have hja:a≤j:=by
   by_cases hc:a≤j
   ·exact hc
   ·have:=adO j (by omega)
    rw [this] at hp
    simp at hp
  have VF:=(List.find?_eq_some_iff_getElem.1 hf).2
  obtain ⟨i,hi,Rc,ni⟩:=VF
  rw [List.getElem_range] at Rc
  subst Rc
  show (i:Int)=(a:Int)
  by_cases hc:i=a
  ·rw [hc]
  ·have hai:a < i:=by omega
   have:=ni a hai
   rw [List.getElem_range] at this
   have e:l.getD a d=l[a]:=by simp [show a < l.length by omega]
   rw [e,h2 (by omega)] at this
   simp at this
end Go.Am
