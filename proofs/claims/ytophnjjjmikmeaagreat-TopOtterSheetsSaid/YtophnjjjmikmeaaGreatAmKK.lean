/- The abstract machine: ranges over functions. -/
import Derived.Test.YtophnjjjmikmeaaGreatAmKJ
import Derived.RangeFuncIn
import Derived.RangeFuncRecord
import Derived.RangeFuncNested
set_option linter.all false
namespace Go.Am
open Go
def eA:aV→aV
 | []=>[]
 | .put d (.lp _ _) :: l=>.put d .none :: eA l
 | .put d x :: l=>.put d x :: eA l
 | .kill _ :: l=>eA l
def SV.xi:SV→SV
 | .lp _ _=>.none
 | x=>x
theorem nI (t:Nat):∀ l:aV,lk (eA l) t=(lk l t).xi
 | []=>rfl
 | .put d x :: l=>by
  cases x <;> simp only [eA] <;> by_cases e:d=t <;> first | (subst e; rw [aw,aw]; rfl) | (rw [aD e,aD e]; exact nI t l)
 | .kill d :: l=>by
  simp only [eA,lk]
  rw [nI t l]
  cases lk l t with
  | lp k off=>
   by_cases e:k=d
   ·subst e; simp [SV.xi]
   ·simp [lq e,SV.xi]
  | _=>rfl
theorem ja:∀ l:aV,DN (eA l)=true
 | []=>rfl
 | .put d x :: l=>by
  cases x <;> simp only [eA,DN] <;> exact ja l
 | .kill d :: l=>by simp only [eA]; exact ja l
def U2 (E:Env) (Q:Exit→St→Prop) (s:St) (G':List GO):Prop:=
 match nth G' (s.G.length+1) with
 | some (.loop busy pending _ _ _ _ _ _ _ done)=>(busy=false∨done=true) ∧
  match pending with
  | none=>Q .normal ⟨s.ab,s.boxes,au G' (s.G.length+1) .dead,s.G.length :: s.marks,s.ro,s.n⟩
  | some c=>ec E c Q ⟨s.ab,s.boxes,au G' (s.G.length+1) .dead,s.G.length :: s.marks,s.ro,s.n⟩
 | _=>False
theorem vF {busy done:Bool} (h:busy=false∨done=true):(if done=true then LoopState.done else if busy=true then LoopState.busy else LoopState.ready)≠LoopState.busy:=by
 rcases h with rfl | rfl
 ·cases done <;> simp
 ·simp
theorem ec.rangeFunc {E:Env} {Q:Exit→St→Prop} {s:St} (fp:Nat) {g:Operand} {ps:Array Tmp} {assign body:Code} (aR:s.ro=none) {f:FuncId} {first cap:List AV} (hg:ba E s.ab g=.v (.fn f first cap))
  (h:cC E f (first++[.yield (s.G.length+1)]++cap) (s.G++[.defers true]++[.loop false none fp (eA s.ab) s.n ps.toList assign body s.G.length false]) (fun _ G'=>U2 E Q s G')) :
  ec E (.rangeFunc g ps assign body) Q s:=fun R w β a F hr hf=>by
 rw [aR] at hf
 have Re:F=Fence.wide:=hf
 subst Re
 refine wpIn_rangeFunc fun fn _=>?_
 have rg:=aF hr g
 rw [hg] at rg
 have RA:Rel R w (.fn f first cap) (a.eval g):=rg
 -- the block for the deferred calls
 have Rk:fa (R.add (.bi w.heap.size)) (w.alloc (.deferred (some []))) (.defers true) (.bi w.heap.size):=heap_alloc_new w _
 have h1:=hr.jn (.deferred (some [])) (.defers true) (.bi w.heap.size) (by exact fun _ h=>h) Rk
 have s1:=cA hr (.deferred (some [])) (.bi w.heap.size) (by exact fun _ h=>h)
 have dl:(w.alloc (.deferred (some []))).heap.size=w.heap.size+1:=by simp
 generalize Uw:w.alloc (.deferred (some []))=w1 at *
 generalize YG:R.add (.bi w.heap.size)=R1 at *
 -- the loop's record
 let iM:Loop:={ state:=.ready,pending:=none,fn:=fn,tmps:=a.tmps,params:=ps,assign:=assign,body:=body,defers:=w.heap.size }
 have Ay:nth R1.obj s.G.length=some (.bi w.heap.size):=by rw [← YG]; exact fh hr _
 have e2:Ext R1 w1 (R1.add (.bi w1.heap.size)) (w1.alloc (.loop iM)):=fg h1.g.wf _ _
 have Nl:fa (R1.add (.bi w1.heap.size)) (w1.alloc (.loop iM)) (.loop false none fp (eA s.ab) s.n ps.toList assign body s.G.length false) (.bi w1.heap.size):=by
  refine ⟨⟨iM,w.heap.size,heap_alloc_new w1 _,rfl,rfl,fun i hi=>?_,hr.n,by simp [iM],rfl,rfl,rfl,e2.bi Ay⟩,ja _⟩
  rw [nI] at hi ⊢
  have bW:lk s.ab i≠.none:=fun e=>hi (by rw [e]; rfl)
  obtain ⟨c,k1,k2⟩:=hr.t i bW
  refine ⟨c,k1,?_⟩
  cases hx:lk s.ab i with
  | none=>exact absurd hx bW
  | lp k off=>rw [hx] at hi; exact absurd rfl hi
  | v x=>
   rw [hx] at k2
   exact Rel.mono (s1.ext.trans e2) (show Rel R w x c from k2)
 have h2:=h1.jn (.loop iM) (.loop false none fp (eA s.ab) s.n ps.toList assign body s.G.length false) (.bi w1.heap.size) (by exact fun _ h=>h) Nl
 have s2:=cA h1 (.loop iM) (.bi w1.heap.size) (by exact fun _ h=>h)
 have Hx:nth (R1.add (.bi w1.heap.size)).obj (s.G.length+1)=some (.bi w1.heap.size):=by
  have:=fh h1 (.bi w1.heap.size)
  simpa [St.cU] using this
 have st:=s1.trans s2
 generalize WN:R1.add (.bi w1.heap.size)=R2 at *
 generalize Nt:a.eval g=fv at RA
 cases RA with
 | @fn _ _ _ vs us q1 q2=>
 refine ⟨w.heap.size+1,[{ target:=.collected w.heap.size,args:=#[] }],w1.alloc (.loop iM),{ target:=.fn (.func f) ⟨us⟩,args:=⟨vs⟩++#[.func (.yield (w.heap.size+1)) #[] #[]] },w1.alloc (.loop iM),f,
  ⟨vs++[.func (.yield (w.heap.size+1)) #[] #[]]++us⟩,w1.alloc (.loop iM),?_,?_,?_,?_,?_,?_⟩
 ·have:Fence.wide.round=none:=rfl
  rw [this,run_enterLoop_outer,Uw]
 ·simp only [resolve,Nt,Deferred.ofValue,Sem.run_pure]
  simp [Act.eval]
 ·intro f' _
  exact trivial
 ·have:=lE (P:=E.P) h.1 (⟨vs++[.func (.yield (w.heap.size+1)) #[] #[]]++us⟩) (w1.alloc (.loop iM))
  simpa [invoke] using this
 ·intro hc; cases hc
 ·have hG:(s.cU (.defers true)).cU (.loop false none fp (eA s.ab) s.n ps.toList assign body s.G.length false)=s.aZ (s.G++[.defers true]++[.loop false none fp (eA s.ab) s.n ps.toList assign body s.G.length false]):=rfl
  have U3:Rel R2 (w1.alloc (.loop iM)) (.yield (s.G.length+1)) (.func (.yield (w.heap.size+1)) #[] #[]):=by
   rw [← dl]
   exact .yield Hx
  refine (h.2 R2 (w1.alloc (.loop iM)) _ h2.g ((((q1.mono st.ext).append (.one U3)).append (q2.mono st.ext)))).mono ?_
  intro e w3 he
  cases e with
  | panicked c=>exact he.elim
  | outgrown=>exact he.elim
  | returned c=>
   obtain ⟨r,G',R3,hQ,dq,U4,Kg⟩:=he
   obtain ⟨p1,p2⟩:=h2.nA U4 Kg
   unfold U2 at hQ
   split at hQ
   ·rename_i busy pending ff sl nn pp oN bd dd done Da
    obtain ⟨U5,hQ⟩:=hQ
    have Hy:nth R3.obj (s.G.length+1)=some (.bi w1.heap.size):=Kg.ext.bi Hx
    obtain ⟨⟨r3,db,l1,l2,l3,_,_,_,_,_,_,_⟩,_⟩:=p1.g.obj _ _ _ Da Hy
    have Db:r3.state≠.busy:=by rw [l2]; exact vF U5
    have YH:w3.heap[w.heap.size+1]?=some (.loop r3):=by rw [← dl]; exact l1
    refine ⟨r3.pending,_,run_endLoop YH Db,?_⟩
    rw [l3]
    -- the record is dead
    have RB:nth R3.obj s.G.length=some (.bi w.heap.size):=Kg.ext.bi (by rw [← WN] at e2 ⊢; exact e2.bi Ay)
    have key:∀ x:Obj,lA x→(∀ r,Obj.loop r3=.loop r→∃ r',x=.loop r'∧mm r r')→aL E R3 (World.put w3 w1.heap.size x) β ⟨s.ab,s.boxes,au G' (s.G.length+1) .dead,s.G.length :: s.marks,s.ro,s.n⟩ { a with defers:=[{ target:=.collected w.heap.size,args:=#[] }]++a.defers }∧Step R w β s.boxes R3 (World.put w3 w1.heap.size x) β s.boxes:=fun x hx U6=>by
     obtain ⟨z1,z2⟩:=p1.setObj (x':=x) (go':=.dead) Hy l1 trivial hx U6 (show w1.heap.size < _ by simp [World.put]; exact a7 l1)
     exact ⟨⟨z1.g,z1.b,z1.t,z1.n,⟨⟨w.heap.size,RB,rfl⟩,z1.d⟩⟩,(st.trans p2).trans z2⟩
    obtain ⟨z1,z2⟩:=key (.loop { r3 with state:=.exhausted,pending:=pending }) trivial (fun r e=>⟨_,rfl,by cases e; exact ⟨rfl,rfl,rfl,rfl,rfl⟩⟩)
    rw [dl] at z1 z2
    cases pending with
    | none=>exact ⟨_,R3,β,hQ,z1,z2,rfl⟩
    | some c=>
     refine wpIn_mono (hQ R3 _ β _ Fence.wide z1 (by show bB R3 s.ro Fence.wide; rw [aR]; rfl)) ?_
     rintro e UG JF ⟨zd,Gn,Mb,Ha,uS,n9,sy⟩
     exact ⟨zd,Gn,Mb,Ha,uS,z2.trans n9,sy⟩
   ·exact hQ.elim
def NL (E:Env) (Q:Exit→St→Prop) (s:St) (G':List GO):Prop:=
 match nth G' s.G.length with
 | some (.loop busy pending _ _ _ _ _ _ _ done)=>(busy=false∨done=true) ∧
  match pending with
  | none=>Q .normal ⟨s.ab,s.boxes,au G' s.G.length .dead,s.marks,s.ro,s.n⟩
  | some c=>ec E c Q ⟨s.ab,s.boxes,au G' s.G.length .dead,s.marks,s.ro,s.n⟩
 | _=>False
theorem ec.Dc {E:Env} {Q:Exit→St→Prop} {s:St} (fp:Nat) {g:Operand} {ps:Array Tmp} {assign body:Code} {id:Nat} (aR:s.ro=some id)
  {WO:Bool} {p0:Option Code} {WQ:FuncId} {WR:aV} {n0:Nat} {WS:List Tmp} {WT WU:Code} {d0:Nat} {WV:Bool} (hid:nth s.G id=some (.loop WO p0 WQ WR n0 WS WT WU d0 WV))
  {f:FuncId} {first cap:List AV} (hg:ba E s.ab g=.v (.fn f first cap))
  (h:cC E f (first++[.yield s.G.length]++cap) (s.G++[.loop false none fp (eA s.ab) s.n ps.toList assign body d0 false]) (fun _ G'=>NL E Q s G')) :
  ec E (.rangeFunc g ps assign body) Q s:=fun R w β a F hr hf=>by
 rw [aR] at hf
 obtain ⟨b0,WW,hF⟩:=hf
 subst hF
 obtain ⟨⟨r0,UX,x1,x2,x3,x4,x5,x6,x7,x8,x9,YI⟩,x11⟩:=hr.g.obj _ _ _ hid WW
 refine wpIn_rangeFunc fun fn _=>?_
 have rg:=aF hr g
 rw [hg] at rg
 have RA:Rel R w (.fn f first cap) (a.eval g):=rg
 -- the loop's record
 let iM:Loop:={ state:=.ready,pending:=none,fn:=fn,tmps:=a.tmps,params:=ps,assign:=assign,body:=body,defers:=r0.defers }
 have e2:Ext R w (R.add (.bi w.heap.size)) (w.alloc (.loop iM)):=fg hr.g.wf _ _
 have Nl:fa (R.add (.bi w.heap.size)) (w.alloc (.loop iM)) (.loop false none fp (eA s.ab) s.n ps.toList assign body d0 false) (.bi w.heap.size):=by
  refine ⟨⟨iM,UX,heap_alloc_new w _,rfl,rfl,fun i hi=>?_,hr.n,by simp [iM],rfl,rfl,x9,e2.bi YI⟩,ja _⟩
  rw [nI] at hi ⊢
  have bW:lk s.ab i≠.none:=fun e=>hi (by rw [e]; rfl)
  obtain ⟨c,k1,k2⟩:=hr.t i bW
  refine ⟨c,k1,?_⟩
  cases hx:lk s.ab i with
  | none=>exact absurd hx bW
  | lp k off=>rw [hx] at hi; exact absurd rfl hi
  | v x=>
   rw [hx] at k2
   exact Rel.mono e2 (show Rel R w x c from k2)
 have h2:=hr.jn (.loop iM) (.loop false none fp (eA s.ab) s.n ps.toList assign body d0 false) (.bi w.heap.size) (by exact fun _ h=>h) Nl
 have st:=cA hr (.loop iM) (.bi w.heap.size) (by exact fun _ h=>h)
 have Hx:nth (R.add (.bi w.heap.size)).obj s.G.length=some (.bi w.heap.size):=fh hr _
 generalize WN:R.add (.bi w.heap.size)=R2 at *
 generalize Nt:a.eval g=fv at RA
 cases RA with
 | @fn _ _ _ vs us q1 q2=>
 refine ⟨w.heap.size,[],w.alloc (.loop iM),{ target:=.fn (.func f) ⟨us⟩,args:=⟨vs⟩++#[.func (.yield w.heap.size) #[] #[]] },w.alloc (.loop iM),f,
  ⟨vs++[.func (.yield w.heap.size) #[] #[]]++us⟩,w.alloc (.loop iM),?_,?_,?_,?_,?_,?_⟩
 ·have:(Fence.wide.inRound b0).round=some b0:=rfl
  rw [this]
  exact run_enterLoop_inner x1 _ _ _ _ _
 ·simp only [resolve,Nt,Deferred.ofValue,Sem.run_pure]
  simp [Act.eval]
 ·intro f' _
  exact trivial
 ·have:=lE (P:=E.P) h.1 (⟨vs++[.func (.yield w.heap.size) #[] #[]]++us⟩) (w.alloc (.loop iM))
  simpa [invoke] using this
 ·intro hc; cases hc
 ·have U3:Rel R2 (w.alloc (.loop iM)) (.yield s.G.length) (.func (.yield w.heap.size) #[] #[]):=.yield Hx
  have yj:=(h.2 R2 (w.alloc (.loop iM)) _ h2.g ((((q1.mono st.ext).append (.one U3)).append (q2.mono st.ext))))
  refine CallsIn.mono (F:=Fence.wide.inRound b0) yj ?_
  intro e w3 he
  cases e with
  | panicked c=>exact he.elim
  | outgrown=>exact he.elim
  | returned c=>
   obtain ⟨r,G',R3,hQ,dq,U4,Kg⟩:=he
   obtain ⟨p1,p2⟩:=h2.nA U4 Kg
   unfold NL at hQ
   split at hQ
   ·rename_i busy pending ff sl nn pp oN bd dd done Da
    obtain ⟨U5,hQ⟩:=hQ
    have Hy:nth R3.obj s.G.length=some (.bi w.heap.size):=Kg.ext.bi Hx
    obtain ⟨⟨r3,db,l1,l2,l3,_,_,_,_,_,_,_⟩,_⟩:=p1.g.obj _ _ _ Da Hy
    have Db:r3.state≠.busy:=by rw [l2]; exact vF U5
    refine ⟨r3.pending,_,run_endLoop l1 Db,?_⟩
    rw [l3]
    have key:∀ x:Obj,lA x→(∀ r,Obj.loop r3=.loop r→∃ r',x=.loop r'∧mm r r')→aL E R3 (World.put w3 w.heap.size x) β ⟨s.ab,s.boxes,au G' s.G.length .dead,s.marks,s.ro,s.n⟩ { a with defers:=[]++a.defers }∧Step R w β s.boxes R3 (World.put w3 w.heap.size x) β s.boxes:=fun x hx U6=>by
     obtain ⟨z1,z2⟩:=p1.setObj (x':=x) (go':=.dead) Hy l1 trivial hx U6 (show w.heap.size < _ by simp [World.put]; exact a7 l1)
     exact ⟨⟨z1.g,z1.b,z1.t,z1.n,z1.d⟩,(st.trans p2).trans z2⟩
    obtain ⟨z1,z2⟩:=key (.loop { r3 with state:=.exhausted,pending:=pending }) trivial (fun r e=>⟨_,rfl,by cases e; exact ⟨rfl,rfl,rfl,rfl,rfl⟩⟩)
    cases pending with
    | none=>exact ⟨_,R3,β,hQ,z1,z2,rfl⟩
    | some c=>
     refine wpIn_mono (hQ R3 _ β _ (Fence.wide.inRound b0) z1 (by show bB R3 s.ro _; rw [aR]; exact ⟨b0,Kg.ext.bi (e2.bi WW),rfl⟩)) ?_
     rintro e UG JF ⟨zd,Gn,Mb,Ha,uS,n9,sy⟩
     exact ⟨zd,Gn,Mb,Ha,uS,z2.trans n9,sy⟩
   ·exact hQ.elim
def Dd (id:Nat) (Q:Bool→List GO→Prop):Exit→St→Prop:=fun e s=>match nth s.G id with
 | some (.loop _ _ fn sl n ps oN bd d _)=>match e with
  | .normal=>Q true (au s.G id (.loop false none fn sl n ps oN bd d false))
  | .ret=>Q false (au s.G id (.loop false (some .ret) fn sl n ps oN bd d true))
  | .exit i=>Q false (au s.G id (.loop false (some (.exit i)) fn sl n ps oN bd d true))
  | _=>False
 | _=>False
def zC (E:Env) (id:Nat) (body:Code) (Q:Bool→List GO→Prop):Exit→St→Prop:=fun e s=>match e with
 | .normal=>match nth s.G id with
  | some (.loop false p fn sl n ps oN bd d false)=>ec E body (Dd id Q) (s.aZ (au s.G id (.loop true p fn sl n ps oN bd d false)))
  | _=>False
 | _=>False
def vG:List Tmp→List AV→aV→aV
 | t :: ts,a :: l,r=>vG ts l (.put t (.v a) :: r)
 | _,_,r=>r
def St.round (id:Nat) (ab:aV) (n:Nat) (G:List GO):St:=⟨ab,[],G,[],some id,n⟩
theorem vH {R:af} {w:World} {β:Nat→Nat}:∀ {ts:List Tmp} {l:List AV} {cs:List Value} {r:aV} {tmps:Array Value},mo R w β r tmps→aA R w l cs→l.length=ts.length→(∀ t∈ts,t < tmps.size) →
  mo R w β (vG ts l r) ((ts.zip cs).foldl (fun tmps (t,a)=>tmps.setIfInBounds t a) tmps)
 | [],[],_,_,_,h,.nil,_,_=>h
 | t :: ts,a :: l,c :: cs,r,tmps,h,.cons hx hl,hlen,ht=>by
  have dl:t < tmps.size:=ht t (by simp)
  simp only [vG,List.zip_cons_cons,List.foldl_cons]
  refine vH ?_ hl (by simpa using hlen) (fun t' h'=>by simpa using ht t' (by simp [h']))
  have:=mo.put (a:={ tmps:=tmps,defers:=[] }) h (d:=t) (x:=.v a) (c:=c) dl hx
  simpa [Act.put] using this
 | [],_ :: _,_,_,_,_,_,hlen,_=>by simp at hlen
 | _ :: _,[],_,_,_,_,_,hlen,_=>by simp at hlen
theorem De (l:List (Tmp × Value)):∀ tmps:Array Value,(l.foldl (fun (tmps:Array Value) (x:Tmp × Value)=>tmps.setIfInBounds x.1 x.2) tmps).size=tmps.size:=by
 induction l with
 | nil=>intro _; rfl
 | cons x l ih=>intro tmps; rw [List.foldl_cons,ih]; simp
theorem jx.intro {E:Env} {id:Nat} {args:List AV} {G:List GO} {Q:Bool→List GO→Prop} {fn:FuncId} {ab:aV} {n:Nat} {ps:List Tmp} {assign body:Code} {d:Nat} {p:Option Code}
  (hG:nth G id=some (.loop false p fn ab n ps assign body d false)) (hl:args.length=ps.length) (F9:∀ t∈ps,t < n)
  (h:ec E assign (zC E id body Q) (St.round id (vG ps args ab) n G)):jx E id args G Q:=fun R w cs b hg hr hb=>by
 obtain ⟨⟨r,db,l1,l2,l3,l4,l5,l6,l7,l8,l9,l10⟩,l11⟩:=hg.obj id _ _ hG hb
 have hlen:=hr.length
 refine ⟨r,l1,by rw [l6]; simp; omega,?_⟩
 have U7:Step R w (fun _=>0) gq R w (fun _=>0) gq:=Step.refl _ _ _ _
 have U8:aL E R w (fun _=>0) (St.round id (vG ps args ab) n G) { tmps:=(r.params.zip ⟨cs⟩).foldl (fun tmps (t,a)=>tmps.setIfInBounds t a) r.tmps,defers:=[] }:=by
  have RC:(r.params.zip ⟨cs⟩).foldl (fun (tmps:Array Value) (x:Tmp × Value)=>tmps.setIfInBounds x.1 x.2) r.tmps=(ps.zip cs).foldl (fun (tmps:Array Value) (x:Tmp × Value)=>tmps.setIfInBounds x.1 x.2) r.tmps:=by
   rw [← Array.foldl_toList]
   simp [l6]
  refine ⟨hg,⟨fun k cs hk=>?_,fun k k' c c' hk=>?_⟩,?_,?_,trivial⟩
  ·simp [St.round,cO] at hk
  ·simp [St.round,cO] at hk
  ·show mo _ _ _ _ _
   have:=vH (ts:=ps) (l:=args) (cs:=cs) l4 hr hl (fun t ht=>by rw [l5]; exact F9 t ht)
   rw [← RC] at this
   exact this
  ·show _=n
   have:=De (ps.zip cs) r.tmps
   rw [← RC] at this
   exact this.trans l5
 have Ni:∀ (k:Nat) (cs:List AV),cO (St.round id (vG ps args ab) n G).boxes k≠some cs:=fun k cs hk=>by simp [St.round,cO] at hk
 rw [l7,l8]
 refine roundIn_of_wpIn trivial (wpIn_mono (h R w (fun _=>0) _ (Fence.wide.inRound b) U8 ⟨b,hb,rfl⟩) ?_)
 rintro e a1 w1 ⟨s1,R1,β1,hq,BV,st1,U9⟩
 unfold zC at hq
 cases e with
 | normal=>
  simp only at hq
  split at hq
  ·rename_i p' UU Qq n' Ry Kf Qt d' Va
   have Hn:nth R1.obj id=some (.bi b):=st1.ext.bi hb
   obtain ⟨⟨r1,YJ,m1,m2,m3,m4,m5,m6,m7,m8,m9,m10⟩,m11⟩:=BV.g.obj id _ _ Va Hn
   refine ⟨_,run_beginRound m1 m2,?_⟩
   obtain ⟨z1,z2⟩:=BV.setObj (x':=.loop { r1 with state:=.busy }) (go':=.loop true p' UU Qq n' Ry Kf Qt d' false) Hn m1 trivial trivial (fun r e=>⟨_,rfl,by cases e; exact ⟨rfl,rfl,rfl,rfl,rfl⟩⟩)
    ⟨⟨{ r1 with state:=.busy },YJ,fG _ _ _ (a7 m1),rfl,m3,m4.mono (lB (x':=.loop { r1 with state:=.busy }) m1 trivial trivial (fun r e=>⟨_,rfl,by cases e; exact ⟨rfl,rfl,rfl,rfl,rfl⟩⟩)),m5,m6,m7,m8,m9,m10⟩,m11⟩
   refine wpIn_mono (hq R1 _ β1 a1 (Fence.wide.inRound b) z1 (by show bB R1 s1.ro _; rw [U9]; exact ⟨b,Hn,rfl⟩)) ?_
   rintro e2 a2 w2 ⟨s2,R2,β2,ma,uJ,st2,zD⟩
   unfold Dd at ma
   split at ma
   ·rename_i bu2 p2 Ts Vb n2 Vc Vd Ve d2 YK Rp
    have RD:=(st1.trans z2).trans st2
    have Aj:nth R2.obj id=some (.bi b):=RD.ext.bi hb
    obtain ⟨⟨r2,YL,o1,o2,o3,o4,o5,o6,o7,o8,o9,Qu⟩,Mn⟩:=uJ.g.obj id _ _ Rp Aj
    have fin:∀ (j:Option Code),zm E R w (fun b' G'=>G'=au s2.G id (.loop false j Ts Vb n2 Vc Vd Ve d2 (!j.isNone))∧b'=j.isNone) (.returned (.bool j.isNone)) (w2.putObj b (.loop { r2 with state:=if j.isNone then .ready else .done,pending:=j })):=fun j=>by
     obtain ⟨y1,y2⟩:=uJ.setObj (x':=.loop { r2 with state:=if j.isNone then .ready else .done,pending:=j }) (go':=.loop false j Ts Vb n2 Vc Vd Ve d2 (!j.isNone)) Aj o1 trivial trivial (fun r e=>⟨_,rfl,by cases e; exact ⟨rfl,rfl,rfl,rfl,rfl⟩⟩)
      ⟨⟨{ r2 with state:=if j.isNone then .ready else .done,pending:=j },YL,fG _ _ _ (a7 o1),by cases j <;> rfl,rfl,o4.mono (lB (x':=.loop { r2 with state:=if j.isNone then .ready else .done,pending:=j }) o1 trivial trivial (fun r e=>⟨_,rfl,by cases e; exact ⟨rfl,rfl,rfl,rfl,rfl⟩⟩)),o5,o6,o7,o8,o9,Qu⟩,Mn⟩
     exact ⟨_,_,R2,⟨rfl,rfl⟩,rfl,y1.g,uW (RD.trans y2) Ni⟩
    have mk:∀ (j:Option Code),Q j.isNone (au s2.G id (.loop false j Ts Vb n2 Vc Vd Ve d2 (!j.isNone)))→∃ v w',(Instr.endRound b j).run E.P w2=.ok v w'∧zm E R w Q (.returned v) w':=fun j hQ=>by
     refine ⟨_,_,run_endRound j o1,?_⟩
     obtain ⟨r',G',R',⟨h1,h2⟩,h3⟩:=fin j
     subst h1; subst h2
     exact ⟨_,_,R',hQ,h3⟩
    cases e2 with
    | normal=>exact mk none ma
    | ret=>exact mk (some .ret) ma
    | exit i=>exact mk (some (.exit i)) ma
    | _=>exact ma.elim
   ·exact ma.elim
  ·exact hq.elim
 | _=>exact hq.elim
end Go.Am
namespace Go.Am
open Go
section
variable {E:Env} {R R':af} {w w':World} {β β':Nat→Nat} {s s':St} {a a':Act}
def bP (E:Env) (g:FuncId) (args:List AV) (Q:AV→Prop):Prop:=∀ G,cC E g args G (fun r G'=>G'=G∧Q r)
theorem bP.mono {g:FuncId} {args:List AV} {Q Q':AV→Prop} (h:bP E g args Q) (hq:∀ r,Q r→Q' r):bP E g args Q':=
 fun G=>(h G).mono fun r _ hh=>⟨hh.1,hq r hh.2⟩
theorem bP.of {g:FuncId} {args:List AV} {p:aq} {Q:p.T→Prop} (hc:aC 0 args=true) (hp:p.under 0=true)
  (h:cC E g args [] (fun r _=>∃ y,p.dec r=some y∧Q y)):bP E g args (fun r=>∃ y,r=p.enc y∧Q y):=fun G=>by
 refine ⟨h.1,fun R w cs hg hl=>?_⟩
 let R0:af:=⟨R.I,[]⟩
 have m0:Mv R R0 0:=⟨fun _ _ h=>h,fun _ _ h=>absurd h (Nat.not_lt_zero _)⟩
 have Qm:dO E R0 w []:=⟨rfl,fun id go ro h1 _=>by simp [nth] at h1,fun i j ri rj b h1=>by simp [R0,nth] at h1,hg.wf,fun g cs s8=>(hg.cG g cs s8).move m0 (b7 _ (E.yK g cs s8)),hg.lo⟩
 have tC:aA R0 w args cs:=hl.move m0 hc
 refine (h.2 R0 w cs Qm tC).mono fun e w' he=>?_
 cases e with
 | panicked c=>exact he.elim
 | outgrown=>exact he.elim
 | returned c=>
  obtain ⟨r,G',R1,⟨y,hy,hQ⟩,dq,NM,st⟩:=he
  have jr:∀ b,¬ Own R0 (fun _=>0) gq b:=fun b ho=>by
   obtain ⟨id,ro,h1,_⟩:=eF ho
   simp [R0,nth] at h1
  let R2:af:=⟨R1.I,R.obj⟩
  have e:Ext R w R2 w':=⟨st.ext.I,st.ext.cell,fun id ro h=>⟨ro,h,bI.refl ro⟩,st.ext.lp⟩
  have bl:∀ b,b < w.heap.size→w'.heap[b]?=w.heap[b]?:=fun b hb=>st.bl b hb (jr b)
  have im:∀ b o,b < w.heap.size→R1.I b o→R.I b o:=fun b o hb hi=>st.im b o hi hb (jr b)
  have hd:=p.oD hy
  have m:Mv R1 R2 0:=⟨fun _ _ h=>h,fun _ _ h=>absurd h (Nat.not_lt_zero _)⟩
  refine ⟨p.enc y,G,R2,⟨rfl,y,rfl,hQ⟩,Rel.move m (p.cY y hp) (hd.fB _ _ _ dq),⟨hg.len,fun id go ro h1 h2=>?_,hg.inj,NM.wf,fun g cs s8=>(hg.cG g cs s8).mono e,NM.lo⟩,⟨e,st.os,st.tape,st.output,st.size,fun b hb _=>bl b hb,fun b _ ho=>?_,fun b o hi hb _=>im b o hb hi⟩⟩
  ·refine (hg.obj id go ro h1 h2).mono e (fun b hb=>bl b ?_) (fun b o hb hi=>im b o ?_ hi)
   ·exact (hg.obj id go ro h1 h2).lt hb
   ·exact (hg.obj id go ro h1 h2).lt hb
  ·exact ho
theorem ec.Vf {c:Code} {Q Q':Exit→St→Prop} (h:ec E c (fun e s'=>az s s'∧Q' e s') s)
  (hq:∀ e s',Q' e s'→∃ (t:bw) (v:t.ps.T),t.dec s s'=some v∧Q e (t.st s v)):ec E c Q s:=fun R w β a F hr hf=>by
 refine wpIn_mono (h R w β a F hr hf) ?_
 rintro e a' w' ⟨s',R',β',⟨hx,UE⟩,gH,fF,aR⟩
 obtain ⟨t,v,hd,hQ⟩:=hq e s' UE
 obtain ⟨h1,h2⟩:=bw.Ah hx hr gH fF hd
 exact ⟨_,_,β',hQ,h1,h2,rfl⟩
theorem ec.eS {c:Code} {Q:Exit→St→Prop} {l:List (Loc × Nat × TypeId)} (hs:Am.eS l s=some s') (h:ec E c Q s'):ec E c Q s:=fun R w β a F hr hf=>by
 obtain ⟨R1,k1,k2,k3,_⟩:=gL hr hs
 refine wpIn_mono (h R1 w β a F k1 (by rw [k3]; exact hf.mono k2.ext)) ?_
 rintro e a' w' ⟨s2,R2,β2,hq,uJ,st2,zD⟩
 exact ⟨s2,R2,β2,hq,uJ,k2.trans st2,zD.trans k3⟩
end
end Go.Am
namespace Go.Am
open Go
def Hz (s:St) (dst:Option Tmp) (x:SV):Option (Bool × St × St):=match x with
 | .v (.ptr id 0)=>match nth s.G id with
  | some (.fu l pos)=>some (Nat.blt pos l.length,(s.aZ (au s.G id (.fu l (pos+(bA l pos).2)))).put dst (.v (.bt [.bool true,.int .i64 pos,.int .i32 (bA l pos).1])),s.put dst (.v (.bt [.bool false])))
  | _=>none
 | _=>none
theorem Df {s:St} {dst:Option Tmp} {x:SV} {b:Bool} {s1 s2:St} (h:Hz s dst x=some (b,s1,s2)):jW s dst x=some (bif b then s1 else s2):=by
 unfold Hz at h
 split at h
 ·split at h
  ·rename_i l pos hg
   cases h
   simp only [jW,hg]
   cases Nat.blt pos l.length <;> rfl
  ·cases h
 ·cases h
theorem Eo {e:EK} {k:AV}:∀ {es:List (AV × AV)},dc e k es=true→gD e k es=some (eB e k es)
 | [],_=>rfl
 | (k',v) :: l,h=>by
  simp only [dc,Bool.and_eq_true] at h
  obtain ⟨b,hb⟩:=Option.isSome_iff_exists.1 h.1
  simp only [gD,eB,wK,hb]
  cases b
  ·simp only [cond_false]; exact Eo h.2
  ·rfl
theorem HA {e:EK} {k v:AV}:∀ {es:List (AV × AV)},dc e k es=true→qY e k v es=some (bz e k v es)
 | [],_=>rfl
 | (k',v') :: l,h=>by
  simp only [dc,Bool.and_eq_true] at h
  obtain ⟨b,hb⟩:=Option.isSome_iff_exists.1 h.1
  simp only [qY,bz,wK,hb]
  cases b
  ·simp only [cond_false,HA h.2]
  ·rfl
mutual
def aq.flat:aq→Bool
 | .int _=>true
 | .bool=>true
 | .str=>true
 | .agg ps=>ps.flat
 | .aH _ _ p=>p.flat
 | _=>false
def aG.flat:aG→Bool
 | .nil=>true
 | .cons p ps=>p.flat&&ps.flat
end
theorem Br {α:Type} {f:AV→Bool} {d:AV→α} {g:α→AV} (h:∀ a,f a=true→g (d a)=a):∀ {es:List AV},allFit f es=true→(es.map d).map g=es
 | [],_=>rfl
 | a :: l,hl=>by
  simp only [allFit,Bool.and_eq_true] at hl
  rw [List.map_cons,List.map_cons,h a hl.1,Br h hl.2]
mutual
theorem aq.jD:∀ {p:aq},p.flat=true→∀ {a:AV},p.fits a=true→p.enc (p.bc a)=a
 | .int k,_,a,h=>by
  cases a <;> first | (cases h; done) | skip
  have hk:Qg _ _=true:=h
  rw [B7 hk]; rfl
 | .bool,_,a,h=>by cases a <;> first | (cases h; done) | rfl
 | .str,_,a,h=>by cases a <;> first | (cases h; done) | rfl
 | .agg ps,hp,a,h=>by
  cases a <;> first | (cases h; done) | skip
  exact congrArg AV.agg (aG.jD (ps:=ps) hp h)
 | .bt _,hp,_,_=>by cases hp
 | .list _ _,hp,_,_=>by cases hp
 | .own _ _ _,hp,_,_=>by cases hp
 | .aH id sz p,hp,a,h=>by
  cases a <;> first | (cases h; done) | skip
  rename_i k aT es
  cases k <;> first | (cases h; done) | skip
  rename_i gb j
  simp only [aq.fits,Bool.and_eq_true] at h
  have e1:=Nat.eq_of_beq_eq_true h.1.1
  have e2:=Nat.eq_of_beq_eq_true h.1.2
  subst e1 e2
  have hp:p.flat=true:=hp
  show AV.list (.aH id j) sz ((es.map p.bc).map p.enc)=_
  rw [Br (fun a ha=>aq.jD hp ha) h.2]
 | .lg _,hp,_,_=>by cases hp
 | .two _ _,hp,_,_=>by cases hp
theorem aG.jD:∀ {ps:aG},ps.flat=true→∀ {l:List AV},ps.fits l=true→ps.enc (ps.bc l)=l
 | .nil,_,l,h=>by
  cases l with
  | nil=>rfl
  | cons _ _=>cases h
 | .cons p .nil,hp,l,h=>by
  simp only [aG.flat,Bool.and_eq_true] at hp
  cases l with
  | nil=>cases h
  | cons a l=>
   simp only [aG.fits,Bool.and_eq_true] at h
   cases l with
   | nil=>exact congrArg (fun x=>[x]) (aq.jD hp.1 h.1)
   | cons _ _=>cases h.2
 | .cons p (.cons q ps),hp,l,h=>by
  rw [aG.flat,Bool.and_eq_true] at hp
  cases l with
  | nil=>cases h
  | cons a l=>
   rw [aG.fits,Bool.and_eq_true] at h
   have h1:=aq.jD hp.1 h.1
   have h2:=aG.jD (ps:=.cons q ps) hp.2 h.2
   show p.enc (p.bc a) :: (aG.cons q ps).enc ((aG.cons q ps).bc l)=a :: l
   rw [h1,h2]
end
def tK (E:Env) (s:St) (t:TypeId) (m k:SV):Option (Bool × AV × Bool):=match Gi E s.G t,E.ti t,mapOf s m,k with
 | some p,some i,some es,.v k=>match i.k with
  | .map kt _ (some z)=>match E.ti kt with
   | some j=>if j.ek.plain&&gj j.ek k&&p.flat then
     some (dc j.ek k es&&p.fits (b8 j.ek k (Ao E s.G t z) es),p.enc (p.bc (b8 j.ek k (Ao E s.G t z) es)),(eB j.ek k es).isSome)
    else none
   | none=>none
  | _=>none
 | _,_,_,_=>none
theorem qg {E:Env} {s:St} {t:TypeId} {m k:SV} {v:AV} {b:Bool} (h:tK E s t m k=some (true,v,b)):jV E s t m k=some (v,b):=by
 unfold tK at h
 split at h
 ·rename_i p i es k h1 h2 h3
  split at h
  ·rename_i kt et z hk
   split at h
   ·rename_i j hj
    split at h
    ·rename_i hc
     simp only [Bool.and_eq_true] at hc
     injection h with h
     injection h with h4 h
     injection h with h5 h6
     rw [Bool.and_eq_true] at h4
     rw [aq.jD hc.2 h4.2] at h5
     have e:gD j.ek k es=some (eB j.ek k es):=Eo h4.1
     have lS:(j.ek.plain&&gj j.ek k)=true:=by rw [hc.1.1,hc.1.2]; rfl
     have e0:gX E s t m (.v k)=some ((eB j.ek k es).getD z,(eB j.ek k es).isSome):=by
      simp only [gX,h2,h3,hk,hj,lS,if_true,e]
      cases eB j.ek k es <;> rfl
     unfold jV
     rw [e0]
     unfold b8 at h5
     cases hg:eB j.ek k es with
     | none=>
      rw [hg] at h5 h6
      subst h5 h6
      rfl
     | some v'=>
      rw [hg] at h5 h6
      subst h5 h6
      rfl
    ·cases h
   ·cases h
  ·cases h
 ·cases h
def tL (E:Env) (s:St) (t:TypeId) (m k x:SV):Option (Bool × St):=match E.ti t,m,k,x with
 | some i,.v (.map id),.v k,.v x=>match i.k,nth s.G id with
  | .map kt _ _,some (.map es)=>match E.ti kt with
   | some j=>if j.ek.plain&&gj j.ek k then some (dc j.ek k es,s.aZ (au s.G id (.map (bz j.ek k x es)))) else none
   | none=>none
  | _,_=>none
 | _,_,_,_=>none
theorem qh {E:Env} {s s':St} {t:TypeId} {m k x:SV} (h:tL E s t m k x=some (true,s')):eo E s t m k x=some s':=by
 unfold tL at h
 split at h
 ·rename_i i id k x h1
  split at h
  ·rename_i kt _ _ es hk hg
   split at h
   ·rename_i j hj
    split at h
    ·rename_i hc
     injection h with h
     injection h with h4 h5
     simp only [eo,h1,hk,hg,hj,hc,if_true,HA h4,h5]
    ·cases h
   ·cases h
  ·cases h
 ·cases h
def HB (E:Env) (s:St) (dst:Option Tmp) (l:List AV) (tys:List TypeId):Option (Bool × St):=match l,tys with
 | [.gC id off sz len _,.str bs],t :: _=>match E.ti t,nth s.G id with
  | some i,some (.row cs el)=>match i.k with
   | .sl _ esz _ _ _=>if Nat.beq sz esz&&Nat.beq esz 1 then
     some (Nat.ble (off+(bs.take (Nat.min bs.length len)).length) cs.length,
      (s.aZ (au s.G id (.row (bu cs off ((bs.take (Nat.min bs.length len)).map pt)) el))).put dst (.v (.int .i64 (Nat.min bs.length len))))
    else none
   | _=>none
  | _,_=>none
 | [.gC id off sz len _,.list _ aT es],t :: _=>match E.ti t,nth s.G id with
  | some i,some (.row cs el)=>match i.k with
   | .sl _ esz _ _ _=>if Nat.beq sz esz&&Nat.beq aT esz then
     some (Nat.ble (off+(ar (es.take (Nat.min es.length len))).length) cs.length,
      (s.aZ (au s.G id (.row (bu cs off (ar (es.take (Nat.min es.length len)))) el))).put dst (.v (.int .i64 (Nat.min es.length len))))
    else none
   | _=>none
  | _,_=>none
 | [.cL id f off sz len,.list _ aT xs],t :: _=>match E.ti t,nth s.G id with
  | some i,some (.cP es Tt el)=>match i.k with
   | .sl _ esz _ _ _=>if Nat.beq sz esz&&Nat.beq Tt sz&&Nat.beq aT esz then
     some (decide (f=es.length)&&decide (off+Nat.min xs.length len≤es.length),
      (s.aZ (au s.G id (.cP (bu es off (xs.take (Nat.min xs.length len))) Tt el))).put dst (.v (.int .i64 (Nat.min xs.length len))))
    else none
   | _=>none
  | _,_=>none
 | _,_=>none
theorem Dg {E:Env} {s s':St} {dst:Option Tmp} {l:List AV} {tys:List TypeId} (h:HB E s dst l tys=some (true,s')):bJ E s dst .copy l tys=some (true,s'):=by
 unfold HB at h
 split at h
 ·rename_i id off sz len cap bs t ts
  split at h
  ·rename_i i cs el hi hid
   split at h
   ·rename_i a1 esz a2 a3 a4 hk
    split at h
    ·rename_i hc
     rw [Bool.and_eq_true] at hc
     injection h with h
     injection h with h1 h2
     have jP:(Nat.beq esz 1&&Nat.ble (off+(bs.take (Nat.min bs.length len)).length) cs.length)=true:=by rw [hc.2,h1]; rfl
     simp only [bJ,hi,hk,pu,hid,hc.1,if_true,jP,h2]
    ·cases h
   ·cases h
  ·cases h
 ·rename_i id off sz len cap k aT es t ts
  split at h
  ·rename_i i cs el hi hid
   split at h
   ·rename_i a1 esz a2 a3 a4 hk
    split at h
    ·rename_i hc
     rw [Bool.and_eq_true] at hc
     injection h with h
     injection h with h1 h2
     have e2:(Nat.beq aT esz || es.isEmpty)=true:=by rw [hc.2]; rfl
     simp only [bJ,hi,hk,pu,hid,hc.1,if_true,e2,h1,h2]
    ·cases h
   ·cases h
  ·cases h
 ·rename_i id f off sz len k aT xs t ts
  split at h
  ·rename_i i es Tt el hi hid
   split at h
   ·rename_i a1 esz a2 a3 a4 hk
    split at h
    ·rename_i hc
     rw [Bool.and_eq_true] at hc
     injection h with h
     injection h with h1 h2
     rw [Bool.and_eq_true,decide_eq_true_eq,decide_eq_true_eq] at h1
     obtain ⟨rfl,h1⟩:=h1
     have e2:(Nat.beq sz esz&&Nat.beq Tt sz&&(Nat.beq aT esz || xs.isEmpty)&&Nat.ble es.length es.length&&Nat.ble es.length es.length&&Nat.ble (off+Nat.min xs.length len) es.length)=true:=by
      rw [hc.1,hc.2]
      simp only [Bool.true_or,Bool.true_and,Bool.and_eq_true]
      exact ⟨⟨Nat.ble_eq_true_of_le (Nat.le_refl _),Nat.ble_eq_true_of_le (Nat.le_refl _)⟩,Nat.ble_eq_true_of_le h1⟩
     simp only [bJ,hi,hk,pu,hid,e2,if_true,h2]
    ·cases h
   ·cases h
  ·cases h
 ·cases h
def tM (s:St) (dst:Option Tmp) (elem esz aU:Nat) (k:LK) (sz:Nat) (es ys:List AV):Option (Bool × St × Bool × St):=
 match k with
 | .nil=>some (ys.isEmpty,s.put dst (.v (.list .nil sz es)),decide ((es.length+ys.length) * aU≤140737488355328),
   (s.aZ (s.G++[.tok (es.length+ys.length) esz elem])).put dst (.v (.list (.own s.G.length) esz (es++ys))))
 | .full=>if Nat.beq sz esz then some (ys.isEmpty,s.put dst (.v (.list .full sz es)),decide ((es.length+ys.length) * aU≤140737488355328),
   (s.aZ (s.G++[.tok (es.length+ys.length) esz elem])).put dst (.v (.list (.own s.G.length) esz (es++ys)))) else none
 | .own id=>match nth s.G id with
  | some (.tok f aT e')=>if Nat.beq aT esz&&Nat.beq e' elem&&Nat.beq sz esz then
    some (false,s,decide (f=es.length)&&decide ((es.length+ys.length) * aU≤140737488355328),
     (s.aZ (Gj s.G id ys.length f esz elem)).put dst (.v (.list (.own id) esz (es++ys)))) else none
  | _=>none
 | .aH id j=>match nth s.G id with
  | some (.aH fs aT e')=>if Nat.beq aT esz&&Nat.beq e' elem&&Nat.beq sz esz then
    some (ys.isEmpty,s.put dst (.v (.list (.aH id j) sz es)),JC fs j es.length&&decide ((es.length+ys.length) * aU≤140737488355328),
     (s.aZ (au s.G id (.aH (EJ fs j (es.length+ys.length)) esz elem))).put dst (.v (.list (.aH id j) esz (es++ys)))) else none
  | _=>none
 | .gA=>none
def zE (s:St) (dst:Option Tmp) (elem esz aU id f off sz len:Nat) (ys:List AV):Option (Bool × St × Bool × St):=match nth s.G id with
 | some (.cP es aT e')=>if Nat.beq aT esz&&Nat.beq e' elem&&Nat.beq sz esz then
   some (false,s,decide (f=es.length)&&decide (off=0)&&decide (len=f)&&decide ((es.length+ys.length) * aU≤140737488355328),
    (s.aZ (au s.G id (.cP (es++ys) esz elem))).put dst (.v (.cL id (es.length+ys.length) 0 esz (es.length+ys.length)))) else none
 | _=>none
def zF (E:Env) (s:St) (dst:Option Tmp) (l:List AV) (tys:List TypeId):Option (Bool × St × Bool × St):=match l,tys with
 | [.list k sz es,.list _ aT ys],[t,u]=>match E.ti t with
  | some i=>match i.k with
   | .sl elem esz _ aU (some z)=>
    if Nat.beq aT esz&&Nat.beq t u&&Nat.ble 1 esz&&Nat.ble 1 aU&&Nat.beq z.cells.length esz&&z.aI then
     tM s dst elem esz aU k sz es ys
    else none
   | _=>none
  | none=>none
 | [.cL id f off sz len,.list _ aT ys],[t,u]=>match E.ti t with
  | some i=>match i.k with
   | .sl elem esz _ aU (some z)=>
    if Nat.beq aT esz&&Nat.beq t u&&Nat.ble 1 esz&&Nat.ble 1 aU&&Nat.beq z.cells.length esz&&z.aI then zE s dst elem esz aU id f off sz len ys else none
   | _=>none
  | none=>none
 | [.list k sz es,.str bs],[t,u]=>match E.ti t,E.ti u with
  | some i,some j=>match i.k,j.k with
   | .sl elem esz _ aU (some z),.str=>
    if Nat.beq esz 1&&Nat.ble 1 aU&&Nat.beq z.cells.length esz&&z.aI then tM s dst elem esz aU k sz es (bs.map pt) else none
   | _,_=>none
  | _,_=>none
 | _,_=>none
theorem qi {s s1 s2:St} {dst:Option Tmp} {elem esz aU:Nat} {k:LK} {sz:Nat} {es ys:List AV} {b c:Bool} (h:tM s dst elem esz aU k sz es ys=some (b,s1,c,s2)) (hc:b=false→c=true) :
  ∃ v G',dx s.G elem esz aU (.list k sz es) ys=some (true,v,G')∧(s.aZ G').put dst (.v v)=bif b then s1 else s2:=by
 unfold tM at h
 cases k with
 | nil=>
  cases h
  cases ys with
  | nil=>exact ⟨_,_,rfl,rfl⟩
  | cons y ys=>
   have hc:=hc rfl
   exact ⟨_,_,by simp only [dx,hc],rfl⟩
 | full=>
  simp only at h
  cases hs:Nat.beq sz esz with
  | false=>rw [hs] at h; cases h
  | true=>
   rw [hs] at h
   cases h
   cases ys with
   | nil=>exact ⟨_,_,rfl,rfl⟩
   | cons y ys=>
    have hc:=hc rfl
    exact ⟨_,_,by simp only [dx,hs,if_true,hc],rfl⟩
 | own id=>
  simp only at h
  split at h
  ·rename_i f aT e' hg
   split at h
   ·rename_i bF
    cases h
    have hc:=hc rfl
    cases ys with
    | nil=>
     simp only [Bool.and_eq_true] at bF
     have e1:=Nat.eq_of_beq_eq_true bF.1.1
     have e2:=Nat.eq_of_beq_eq_true bF.1.2
     have e3:=Nat.eq_of_beq_eq_true bF.2
     subst e1; subst e2; subst e3
     refine ⟨_,_,rfl,?_⟩
     simp only [cond_false,Gj,List.length_nil,Nat.add_zero,mn hg,List.append_nil]
    | cons y ys=>exact ⟨_,_,by simp only [dx,hg,bF,if_true,hc],rfl⟩
   ·cases h
  ·cases h
 | aH id j=>
  simp only at h
  split at h
  ·rename_i fs aT e' hg
   split at h
   ·rename_i bF
    cases h
    cases ys with
    | nil=>exact ⟨_,_,rfl,rfl⟩
    | cons y ys=>
     have hc:=hc rfl
     exact ⟨_,_,by simp only [dx,hg,bF,if_true,hc],rfl⟩
   ·cases h
  ·cases h
 | gA=>cases h
theorem zG {s s1 s2:St} {dst:Option Tmp} {elem esz aU id f off sz len:Nat} {ys:List AV} {b c:Bool} (h:zE s dst elem esz aU id f off sz len ys=some (b,s1,c,s2)) (hc:b=false→c=true) :
  ∃ v G',dx s.G elem esz aU (.cL id f off sz len) ys=some (true,v,G')∧(s.aZ G').put dst (.v v)=bif b then s1 else s2:=by
 unfold zE at h
 split at h
 ·rename_i es aT e' hg
  split at h
  ·rename_i bF
   cases h
   have hc:=hc rfl
   cases ys with
   | nil=>
    simp only [Bool.and_eq_true,decide_eq_true_eq] at hc bF
    have e1:=Nat.eq_of_beq_eq_true bF.1.1
    have e2:=Nat.eq_of_beq_eq_true bF.1.2
    have e3:=Nat.eq_of_beq_eq_true bF.2
    obtain ⟨⟨⟨h1,h2⟩,h3⟩,_⟩:=hc
    subst e1; subst e2; subst e3; subst h1; subst h2; subst h3
    refine ⟨_,_,rfl,?_⟩
    simp only [cond_false,List.length_nil,Nat.add_zero,mn hg,List.append_nil]
   | cons y ys=>exact ⟨_,_,by simp only [dx,hg,bF,if_true,hc],rfl⟩
  ·cases h
 ·cases h
theorem zH {E:Env} {s s1 s2:St} {dst:Option Tmp} {l:List AV} {tys:List TypeId} {b c:Bool} (h:zF E s dst l tys=some (b,s1,c,s2)) (Cr:b=false→c=true):bJ E s dst .append l tys=some (true,bif b then s1 else s2):=by
 unfold zF at h
 split at h
 ·rename_i k sz es k' aT ys t u
  split at h
  ·rename_i i hi
   split at h
   ·rename_i elem esz a1 aU z hk
    split at h
    ·rename_i hc
     have lS:((Nat.beq aT esz || ys.isEmpty)&&Nat.beq t u&&Nat.ble 1 esz&&Nat.ble 1 aU&&Nat.beq z.cells.length esz&&z.aI)=true:=by
      simp only [Bool.and_eq_true] at hc ⊢
      obtain ⟨⟨⟨⟨⟨c1,c2⟩,c3⟩,c4⟩,c5⟩,c6⟩:=hc
      exact ⟨⟨⟨⟨⟨by rw [c1]; rfl,c2⟩,c3⟩,c4⟩,c5⟩,c6⟩
     obtain ⟨v,G',h1,h2⟩:=qi h Cr
     simp only [bJ,hi,hk,lS,if_true,h1,h2]
    ·cases h
   ·cases h
  ·cases h
 ·rename_i id f off sz len k' aT ys t u
  split at h
  ·rename_i i hi
   split at h
   ·rename_i elem esz a1 aU z hk
    split at h
    ·rename_i hc
     have lS:((Nat.beq aT esz || ys.isEmpty)&&Nat.beq t u&&Nat.ble 1 esz&&Nat.ble 1 aU&&Nat.beq z.cells.length esz&&z.aI)=true:=by
      simp only [Bool.and_eq_true] at hc ⊢
      obtain ⟨⟨⟨⟨⟨c1,c2⟩,c3⟩,c4⟩,c5⟩,c6⟩:=hc
      exact ⟨⟨⟨⟨⟨by rw [c1]; rfl,c2⟩,c3⟩,c4⟩,c5⟩,c6⟩
     obtain ⟨v,G',h1,h2⟩:=zG h Cr
     simp only [bJ,hi,hk,lS,if_true,h1,h2]
    ·cases h
   ·cases h
  ·cases h
 ·rename_i k sz es bs t u
  split at h
  ·rename_i i j hi hj
   split at h
   ·rename_i elem esz a1 aU z hk Qn
    split at h
    ·rename_i hc
     obtain ⟨v,G',h1,h2⟩:=qi h Cr
     simp only [bJ,hi,hj,hk,Qn,hc,if_true,h1,h2]
    ·cases h
   ·cases h
  ·cases h
 ·cases h
end Go.Am
namespace Go.Am
open Go
def NN (E:Env) (cut wk:Bool) (t:TypeId) (r:AV) (G:List GO):Option (Bool × AV × List GO):=match r with
 | .cL id f 0 sz len=>match nth G id,E.ti t with
  | some (.cP es aT _),some i=>match i.k with
   | .sl _ esz _ _ _=>if Nat.beq esz sz&&Nat.beq aT sz then
     bif cut then some (decide (f=es.length)&&decide (len≤es.length)&&aJ (xz wk es),.list .gA sz (xz wk (es.take len)),au G id .dead)
     else some (decide (f=es.length)&&decide (len=es.length)&&aJ (xz wk es),.list .gA sz (xz wk es),au G id .dead)
    else none
   | _=>none
  | _,_=>none
 | .gC id 0 sz len _=>match nth G id,E.ti t,E.JB t with
  | some (.row cs _),some i,some p=>match i.k with
   | .sl _ esz agg _ _=>if Nat.beq esz sz&&Nat.ble 1 sz&&(agg || Nat.beq sz 1)&&p.under 0 then
     some (Nat.beq cs.length (len * sz)&&allFit (fun e=>p.fits e&&e.aI&&(agg || e.one)) (fM agg sz len cs),.list .gA sz ((fM agg sz len cs).map fun e=>p.enc (p.bc e)),au G id .dead)
    else none
   | _=>none
  | _,_,_=>none
 | .agg cs=>match kC wk cs G with
  | (c,dB,G')=>some (c,.agg dB,G')
 | .ptr id 0=>match nth G id with
  | some (.row cs _)=>some (aJ cs,.ep cs,au G id .dead)
  | _=>none
 | _=>none
def vI (E:Env) (cut wk:Bool):List TypeId→List AV→List GO→Bool × List AV × List GO
 | t :: ts,r :: rs,G=>match NN E cut wk t r G with
  | some (c,r',G')=>match vI E cut wk ts rs G' with
   | (c',HC,Qv)=>(c&&c',r' :: HC,Qv)
  | none=>match vI E cut wk ts rs G with
   | (c',HC,Qv)=>(c',r :: HC,Qv)
 | _,rs,G=>(true,rs,G)
def NO {X:Type} (E:Env) (cut wk:Bool) (ts:List TypeId) (K:AV→List GO→Option X) (r:AV) (G:List GO):Option X:=match r with
 | .bt rs=>match vI E cut wk ts rs G with
  | (c,HC,G')=>bif c then K (.bt HC) G' else none
 | r=>match vI E cut wk ts [r] G with
  | (c,[r'],G')=>bif c then K r' G' else none
  | _=>none
section
variable {E:Env} {R:af} {w:World}
theorem vJ {R:af} {b:Nat} (hI:∀ o,R.I b o):∀ {cs:List AV} {vs:List Value} {o:Nat},aA R w cs vs→(∀ v∈vs,v.oneCell'=true)→(∀ (j:Nat) (v:Value),vs[j]?=some v→w.cell? ⟨b,o+j,none⟩=some v)→dN R w b o cs
 | [],_,o,_,_,_=>.nil
 | a :: cs,_,o,.cons h t,h1,hc=>.cons (hc 0 _ rfl) (h1 _ (by simp)) (hI o) h (vJ hI t (fun v hv=>h1 v (by simp [hv])) fun j v hj=>by
   have:=hc (j+1) v (by simpa using hj)
   rwa [show o+(j+1)=o+1+j by omega] at this)
theorem vK {R:af} {b:Nat} {p:aq} {agg:Bool} {sz:Nat} (hI:∀ o,R.I b o) (hp:p.under 0=true) (dl:(agg || Nat.beq sz 1)=true) (Vg:1≤sz):∀ (n:Nat) {cs:List AV} {vs:List Value} {o:Nat},aA R w cs vs→(∀ v∈vs,v.oneCell'=true)→cs.length=n * sz →
  (∀ (j:Nat) (v:Value),vs[j]?=some v→w.cell? ⟨b,o+j,none⟩=some v)→allFit (fun e=>p.fits e&&e.aI&&(agg || e.one)) (fM agg sz n cs)=true→eY R w b o sz ((fM agg sz n cs).map fun e=>p.enc (p.bc e))
 | 0,_,_,_,_,_,_,_,_=>.nil
 | n+1,cs,vs,o,h,h1,hl,hc,hf=>by
  simp only [fM,allFit,Bool.and_eq_true] at hf
  obtain ⟨⟨⟨s7,Tb⟩,hf4⟩,hf3⟩:=hf
  have hlen:=h.length
  have hle:sz≤cs.length:=by rw [hl,Nat.succ_mul]; omega
  have dk:=p.cn s7
  have kl:(QI agg (cs.take sz)).cells=cs.take sz:=by
   cases agg with
   | true=>rfl
   | false=>
    have Ji:sz=1:=by simpa using dl
    subst Ji
    match cs,hle with
    | a :: cs,_=>
     show AV.cells a=[a]
     have ho:a.one=true:=by simpa [QI,dm] using hf4
     cases a <;> first | rfl | simp [AV.one] at ho
  have hw:=dk.cells Tb
  rw [kl] at hw
  have hA:dN R w b o (cs.take sz):=vJ hI (h.take sz) (fun v hv=>h1 v (List.mem_of_mem_take hv)) fun j v hj=>hc j v (by
   rw [List.getElem?_take] at hj
   split at hj
   ·exact hj
   ·cases hj)
  refine .cons (by rw [← hw.length,List.length_take,Nat.min_eq_left hle]) (by rw [dk.bt]; exact Tb) (kq (p.cY _ hp)) (hw.Gt hA) ?_
  exact vK hI hp dl Vg n (h.drop sz) (fun v hv=>h1 v (List.mem_of_mem_drop hv)) (by rw [List.length_drop,hl,Nat.succ_mul]; omega) (fun j v hj=>by
   rw [List.getElem?_drop] at hj
   have:=hc _ _ hj
   rwa [show o+(sz+j)=o+sz+j by omega] at this) hf3
theorem Kh {cut wk:Bool} {t:TypeId} {r r':AV} {G G':List GO} {c:Value} (hg:dO E R w G) (hr:Rel R w r c) (h:NN E cut wk t r G=some (true,r',G')) :
  ∃ R',dO E R' w G'∧Rel R' w r' c∧Ext R w R' w∧R'.obj=R.obj∧∀ b o,R'.I b o→R.I b o∨Live R b:=by
 unfold NN at h
 split at h
 ·rename_i id f sz len
  obtain ⟨ro,aR⟩:∃ ro,nth R.obj id=some ro:=by
   cases hr with
   | gB q _=>exact ⟨_,q⟩
   | cL q _ _=>exact ⟨_,q⟩
  split at h
  ·rename_i es aT el i hid hi
   split at h
   ·split at h
    ·rename_i hc
     rw [Bool.and_eq_true] at hc
     have q1:=Nat.eq_of_beq_eq_true hc.2
     subst q1
     cases cut with
     | true=>
      simp only [cond_true] at h
      injection h with h; injection h with h1 h; injection h with h2 h3
      subst h2 h3
      rw [Bool.and_eq_true,Bool.and_eq_true,decide_eq_true_eq,decide_eq_true_eq] at h1
      obtain ⟨h1,gd⟩:=h1
      obtain ⟨R',r1,r2,r3,r4,r5⟩:=jw (wk:=wk) hg hid h1.1 h1.2 gd aR
      exact ⟨R',r1,r5 c hr,r2,r3,fun b o hi=>(r4 b o hi).imp_right fun hb=>⟨id,ro,aR,hb⟩⟩
     | false=>
      simp only [cond_false] at h
      injection h with h; injection h with h1 h; injection h with h2 h3
      subst h2 h3
      rw [Bool.and_eq_true,Bool.and_eq_true,decide_eq_true_eq,decide_eq_true_eq] at h1
      obtain ⟨h1,gd⟩:=h1
      obtain ⟨R',r1,r2,r3,r4,r5⟩:=jw (wk:=wk) hg hid h1.1 (Nat.le_of_eq h1.2) gd aR
      have r6:=r5 c hr
      rw [h1.2,List.take_length] at r6
      exact ⟨R',r1,r6,r2,r3,fun b o hi=>(r4 b o hi).imp_right fun hb=>⟨id,ro,aR,hb⟩⟩
    ·cases h
   ·cases h
  ·cases h
 ·rename_i id sz len cap
  split at h
  ·rename_i cs i p hid hi hp
   split at h
   ·rename_i el esz agg eb z hk
    split at h
    ·rename_i hc
     simp only [Bool.and_eq_true] at hc
     injection h with h
     injection h with h1 h
     injection h with h2 h3
     subst h2 h3
     rw [Bool.and_eq_true] at h1
     cases hr with
     | @gC _ _ _ _ _ b hb dW=>
     obtain ⟨vs,k1,k2,k3,k4⟩:=hg.obj id _ _ hid hb
     have AA:Live R b:=⟨id,_,hb,rfl⟩
     have e:=pT R w b
     have bM:=a7 k1
     refine ⟨R.all b,⟨by show R.obj.length=_; rw [de]; exact hg.len,fun gb go ro q1 q2=>?_,hg.inj,fun b' o ho=>?_,fun g cs s8=>(hg.cG g cs s8).mono e,hg.lo⟩,?_,e,rfl,fun b' o ho=>?_⟩
     ·rcases bK q1 with ⟨rfl,rfl,_⟩ | ⟨bW,q1⟩
      ·have:ro=.bi b:=Option.some.inj (q2.symm.trans hb)
       subst this
       exact bM
      ·refine (hg.obj gb go ro q1 q2).mono e (fun _ _=>rfl) (fun b' o iQ ho=>?_)
       rcases ho with ho | ho
       ·exact ho
       ·subst ho
        exact absurd (hg.inj id gb _ _ b' hb q2 rfl iQ) bW
     ·rcases ho with ho | ho
      ·exact hg.wf b' o ho
      ·subst ho; exact bM
     ·refine Rel.list (vK (R:=R.all b) (fun o=>Or.inr rfl) hc.2 hc.1.2 (Nat.le_of_ble_eq_true hc.1.1.2) len (k2.mono e) k3 (Nat.eq_of_beq_eq_true h1.1) (fun j v hj=>?_) h1.2) ?_ dW trivial
      ·simp only [World.cell?,k1]
       simpa using hj
      ·rw [List.length_map]
       have:∀ (n:Nat) (l:List AV),(fM agg sz n l).length=n:=by
        intro n
        induction n with
        | zero=>intro l; rfl
        | succ n ih=>intro l; simp [fM,ih]
       rw [this]
     ·rcases ho with ho | ho
      ·exact .inl ho
      ·subst ho; exact .inr AA
    ·cases h
   ·cases h
  ·cases h
 ·rename_i cs
  cases h2:kC wk cs G with
  | mk c' q=>
  obtain ⟨dB,G2⟩:=q
  rw [h2] at h
  injection h with h; injection h with h1 h; injection h with h3 h4
  subst h1 h3 h4
  cases hr with
  | agg hr jP=>
  obtain ⟨R',r1,r2,r3,r4,r5⟩:=pW hg hr h2
  exact ⟨R',r1,.agg r2 jP,r3,r4,r5⟩
 ·-- an object's cells never change again
  rename_i id
  split at h
  ·rename_i cs el hid
   injection h with h; injection h with h1 h; injection h with h2 h3
   subst h2 h3
   cases hr with
   | @ptr _ _ b aR=>
   obtain ⟨vs,b1,b2,b3,b4⟩:=hg.obj id _ _ hid aR
   have r2:=pT R w b
   have r1:=hg.freeze aR rfl (show fa (R.all b) w .dead (.bi b) from a7 b1)
   refine ⟨R.all b,r1,Rel.ep (dN.make (b2.mono r2) b3 (fun j v hv=>?_) (fun j _=>.inr rfl)),r2,rfl,fun b' o hi=>?_⟩
   ·rw [gZ b1,Nat.zero_add]
    exact hv
   ·rcases hi with hi | rfl
    ·exact .inl hi
    ·exact .inr ⟨id,_,aR,rfl⟩
  ·cases h
 ·cases h
theorem tN {cut wk:Bool}:∀ {ts:List TypeId} {rs HC:List AV} {G G':List GO} {cs:List Value} {R:af},dO E R w G→aA R w rs cs→vI E cut wk ts rs G=(true,HC,G') →
  ∃ R',dO E R' w G'∧aA R' w HC cs∧Ext R w R' w∧R'.obj=R.obj∧∀ b o,R'.I b o→R.I b o∨Live R b
 | [],rs,HC,G,G',cs,R,hg,hr,h=>by
  cases rs <;> (simp only [vI] at h; cases h; exact ⟨R,hg,hr,Ext.refl R w,rfl,fun _ _ h=>.inl h⟩)
 | _ :: _,[],HC,G,G',cs,R,hg,hr,h=>by
  simp only [vI] at h; cases h; exact ⟨R,hg,hr,Ext.refl R w,rfl,fun _ _ h=>.inl h⟩
 | t :: ts,r :: rs,HC,G,G',cs,R,hg,hr,h=>by
  cases hr with
  | cons h0 hr=>
  unfold vI at h
  split at h
  ·rename_i c r' G1 h1
   cases h2:vI E cut wk ts rs G1 with
   | mk c' q=>
   obtain ⟨Rh,G2⟩:=q
   rw [h2] at h
   simp only [Prod.mk.injEq,Bool.and_eq_true] at h
   obtain ⟨⟨rfl,rfl⟩,rfl,rfl⟩:=h
   obtain ⟨R1,a1,a2,a3,a4,a5⟩:=Kh hg h0 h1
   obtain ⟨R2,b1,b2,b3,b4,b5⟩:=tN a1 (hr.mono a3) h2
   refine ⟨R2,b1,.cons (a2.mono b3) b2,a3.trans b3,b4.trans a4,fun b o ho=>?_⟩
   rcases b5 b o ho with ho | ho
   ·exact a5 b o ho
   ·obtain ⟨id,ro,q1,q2⟩:=ho
    rw [a4] at q1
    exact .inr ⟨id,ro,q1,q2⟩
  ·cases h2:vI E cut wk ts rs G with
   | mk c' q=>
   obtain ⟨Rh,G2⟩:=q
   rw [h2] at h
   simp only [Prod.mk.injEq] at h
   obtain ⟨rfl,rfl,rfl⟩:=h
   obtain ⟨R2,b1,b2,b3,b4,b5⟩:=tN hg hr h2
   exact ⟨R2,b1,.cons (h0.mono b3) b2,b3,b4,b5⟩
theorem cC.YM {g:FuncId} {args:List AV} {G:List GO} {X:Type} {cut wk:Bool} {ts:List TypeId} {K:AV→List GO→Option X} {x:X} (h:cC E g args G (fun r G'=>NO E cut wk ts K r G'=some x)):cC E g args G (fun r G'=>K r G'=some x):=
 ⟨h.1,fun R w cs hg hl=>(h.2 R w cs hg hl).mono fun e w' he=>by
  cases e with
  | panicked c=>exact he.elim
  | outgrown=>exact he.elim
  | returned c=>
   obtain ⟨r,G',R1,hq,dq,NM,st⟩:=he
   have fin:∀ (r':AV) (G2:List GO) (R2:af),K r' G2=some x→dO E R2 w' G2→Rel R2 w' r' c→Ext R1 w' R2 w'→R2.obj=R1.obj→(∀ b o,R2.I b o→R1.I b o∨Live R1 b)→Ec E R w (fun r G'=>K r G'=some x) (.returned c) w':=by
    intro r' G2 R2 k1 k2 k3 k4 k5 k6
    have live:∀ b,Live R2 b→Live R1 b:=fun b ⟨id,ro,q1,q2⟩=>⟨id,ro,by rw [← k5]; exact q1,q2⟩
    refine ⟨r',G2,R2,k1,k3,k2,⟨st.ext.trans k4,st.os,st.tape,st.output,st.size,st.bl,fun b hb ho=>?_,fun b o hi hb hn=>?_⟩⟩
    ·rcases ho with ho | ⟨k,cs,hk,rfl⟩
     ·exact st.own b hb (.inl (live b ho))
     ·simp [gq,cO] at hk
    ·rcases k6 b o hi with hi | hi
     ·exact st.im b o hi hb hn
     ·exact absurd (st.own b hb (.inl hi)) hn
   unfold NO at hq
   split at hq
   ·rename_i rs
    cases dq with
    | bt dq=>
    cases h2:vI E cut wk ts rs G' with
    | mk c' q=>
    obtain ⟨Rh,G2⟩:=q
    rw [h2] at hq
    cases c' with
    | false=>cases hq
    | true=>
     obtain ⟨R2,b1,b2,b3,b4,b5⟩:=tN NM dq h2
     exact fin (.bt Rh) G2 R2 hq b1 (.bt b2) b3 b4 b5
   ·split at hq
    ·rename_i c' r' G2 h2
     cases c' with
     | false=>cases hq
     | true=>
      obtain ⟨R2,b1,b2,b3,b4,b5⟩:=tN NM (.cons dq .nil) h2
      cases b2 with
      | cons b2 _=>exact fin r' G2 R2 hq b1 b2 b3 b4 b5
    ·cases hq⟩
end
end Go.Am
namespace Go.Am
open Go
inductive RP
 | Mo (p:aq)
 | map (pe:aq)
 | ep (ps:aG)
def RP.T:RP→Type
 | .Mo p=>p.T
 | .map pe=>List pe.T
 | .ep ps=>ps.T
def RP.enc (n:Nat):(p:RP)→p.T→AV
 | .Mo p,x=>p.enc x
 | .map _,_=>.map n
 | .ep ps,x=>.ep (ps.enc x)
def RP.Dh:(p:RP)→p.T→List GO
 | .Mo _,_=>[]
 | .map pe,(x:List pe.T)=>[.map (ae (x.map pe.enc))]
 | .ep _,_=>[]
def RP.no:RP→Nat
 | .map _=>1
 | _=>0
def rP:List RP→Type
 | []=>Unit
 | [p]=>p.T
 | p :: q :: l=>p.T × rP (q :: l)
def mW:(n:Nat)→(l:List RP)→rP l→List AV
 | _,[],_=>[]
 | n,[p],x=>[p.enc n x]
 | n,p :: q :: l,x=>p.enc n x.1 :: mW (n+p.no) (q :: l) x.2
def fL:(l:List RP)→rP l→List GO
 | [],_=>[]
 | [p],x=>p.Dh x
 | p :: q :: l,x=>p.Dh x.1++fL (q :: l) x.2
structure RF where
 bt:Bool
 l:List RP
def RF.val (f:RF) (n:Nat) (x:rP f.l):AV:=bif f.bt then .bt (mW n f.l x) else dm (mW n f.l x)
def RP.is:RP→AV→Bool
 | .Mo p,v=>match p with
  | .lg u=>dA v u
  | _=>true
 | .map _,v=>match v with
  | .map _=>true
  | _=>false
 | .ep _,v=>match v with
  | .ep _=>true
  | _=>false
def HD:List RP→List AV→Bool
 | [],[]=>true
 | p :: l,v :: vs=>p.is v&&HD l vs
 | _,_=>false
def RF.args (f:RF) (r:AV):List AV:=bif f.bt then r.MK else [r]
def RF.yk (f:RF):AV→Bool
 | .bt _=>f.bt
 | _=>!f.bt
def zI (G:List GO) (used:List Nat) (pe:aq) (v:AV):Option (List pe.T):=match v with
 | .map id=>match nth G id with
  | some (.map es)=>bif Jp used id then none else (bif allFit pe.fits (ao es) then some ((ao es).map pe.bc) else none)
  | _=>none
 | _=>none
def Ep (ps:aG) (v:AV):Option ps.T:=match v with
 | .ep cs=>ps.dec cs
 | _=>none
def RP.dec (G:List GO) (used:List Nat):(p:RP)→AV→Option p.T
 | .Mo p,v=>p.dec v
 | .map pe,v=>zI G used pe v
 | .ep ps,v=>Ep ps v
def rQ (used:List Nat):AV→List Nat
 | .map id=>id :: used
 | _=>used
def rR (G:List GO):(used:List Nat)→(l:List RP)→List AV→Option (rP l)
 | _,[],vs=>match vs with
  | []=>some ()
  | _=>none
 | u,[p],vs=>match vs with
  | [v]=>p.dec G u v
  | _=>none
 | u,p :: q :: l,vs=>match vs with
  | v :: vs=>(p.dec G u v).bind fun x=>(rR G (rQ u v) (q :: l) vs).bind fun y=>some (x,y)
  | []=>none
def RF.dec (f:RF) (G:List GO) (r:AV):Option (rP f.l):=bif f.yk r then rR G [] f.l (f.args r) else none
def RP.under:RP→Bool
 | .Mo p=>p.under 0
 | .map pe=>pe.under 0
 | .ep ps=>ps.under 0
def RF.under (f:RF):Bool:=f.l.all RP.under&&(f.bt || Nat.beq f.l.length 1)
def XT:List RF→Type
 | []=>Empty
 | [f]=>rP f.l
 | f :: g :: l=>rP f.l ⊕ XT (g :: l)
def HE (G:List GO) (r:AV):(l:List RF)→Option (XT l)
 | []=>none
 | [f]=>f.dec G r
 | f :: g :: l=>bif f.yk r&&HD f.l (f.args r) then (f.dec G r).bind fun x=>some (.inl x) else (HE G r (g :: l)).bind fun x=>some (.inr x)
def Qw {α:Type} (G:List GO) (K:AV→List GO→α):(l:List RF)→XT l→α
 | [],o=>Empty.rec (fun _=>α) o
 | [f],o=>K (f.val G.length o) (G++fL f.l o)
 | f :: g :: l,o=>Sum.elim (fun v=>K (f.val G.length v) (G++fL f.l v)) (fun o=>Qw G K (g :: l) o) o
theorem Bs {α:Type} {G:List GO} {K:AV→List GO→α} {r:AV} {G':List GO}:∀ (l:List RF) (o:XT l),Qw G (fun r0 G0=>r=r0∧G'=G0) l o→K r G'=Qw G K l o
 | [],o,_=>nomatch o
 | [f],o,h=>by
  have h:r=f.val G.length o∧G'=G++fL f.l o:=h
  rw [h.1,h.2]; rfl
 | f :: g :: l,.inl v,h=>by
  have h:r=f.val G.length v∧G'=G++fL f.l v:=h
  rw [h.1,h.2]; rfl
 | f :: g :: l,.inr o,h=>Bs (g :: l) o h
def vL (E:Env) (g:FuncId) (args:List AV) (outs:List RF) (Q:XT outs→Prop):Prop:=
 ∀ G,cC E g args G (fun r G'=>∃ y,Q y∧Qw G (fun r0 G0=>r=r0∧G'=G0) outs y)
section
variable {E:Env} {R R1 R2:af} {w:World}
theorem cV.Mp (m:Mv R R2 0):∀ {es:List (AV × AV)} {l:List AV} {ay:List MapEntry},iK (ao es) l→aC 0 l=true→cV R w es ay→cV R2 w (ae l) ay
 | [],[],[],_,_,_=>trivial
 | [],[],_ :: _,_,_,h=>h.elim
 | [],_ :: _,_,h,_,_=>h.elim
 | (_,_) :: _,[],_,h,_,_=>h.elim
 | (_,_) :: _,_ :: _,[],_,_,h=>h.elim
 | (k,v) :: es,a :: l,en :: ay,hd,hu,h=>by
  obtain ⟨d1,d2⟩:=hd
  simp only [aC,Bool.and_eq_true] at hu
  have hc:=d1.cells rfl
  have hl:[k,v].length=a.cells.length:=hc.length
  cases a with
  | agg cs=>
   match cs,hc,hl with
   | [k',v'],hc,_=>
    have NJ:aC 0 [k',v']=true:=hu.1
    simp only [aC,Bool.and_true,Bool.and_eq_true] at NJ
    exact ⟨(hc.1 _ _ _ h.1).move m NJ.1,(hc.2.1 _ _ _ h.2.1).move m NJ.2,cV.Mp m d2 hu.2 h.2.2⟩
   | [],_,hl=>simp [AV.cells] at hl
   | [_],_,hl=>simp [AV.cells] at hl
   | _ :: _ :: _ :: _,_,hl=>simp [AV.cells] at hl
  | _=>simp [AV.cells] at hl
theorem aq.vM {p:aq} (h:p.under 0=true):∀ l:List p.T,aC 0 (l.map p.enc)=true
 | []=>rfl
 | x :: l=>by
  show ((p.enc x).under 0&&aC 0 (l.map p.enc))=true
  rw [p.cY x h,aq.vM h l]
  rfl
def vN (R:af) (n:Nat) (bs:List Nat):Prop:=∀ k b,nth bs k=some b→nth R.obj (n+k)=some (.bi b)
def Er (R:af) (w:World) (gs:List GO) (bs:List Nat):Prop:=∀ k go b,nth gs k=some go→nth bs k=some b→fa R w go (.bi b)
theorem RP.Mq (p:RP) (x:p.T):(p.Dh x).length=p.no:=by cases p <;> rfl
theorem HF {ps:aG} {v:AV} {y:ps.T} (h:Ep ps v=some y):∃ cs,v=.ep cs∧ps.dec cs=some y:=by
 unfold Ep at h
 split at h
 ·exact ⟨_,rfl,h⟩
 ·cases h
theorem FC {G:List GO} {used:List Nat} {pe:aq} {v:AV} {y:List pe.T} (h:zI G used pe v=some y):∃ id es,v=.map id∧nth G id=some (.map es)∧id∉used∧iK (ao es) (y.map pe.enc):=by
 unfold zI at h
 split at h
 ·rename_i id
  split at h
  ·rename_i es Av
   cases hu:Jp used id with
   | true=>rw [hu] at h; cases h
   | false=>
    rw [hu,cond_false] at h
    cases hf:allFit pe.fits (ao es) with
    | false=>rw [hf] at h; cases h
    | true=>
     rw [hf,cond_true] at h
     have hy:=Option.some.inj h
     refine ⟨id,es,rfl,Av,fun hm=>?_,?_⟩
     ·rw [zz.2 hm] at hu; cases hu
     ·rw [← hy]; exact iK.of (fun v hv=>pe.cn hv) hf
  ·cases h
 ·cases h
theorem Di {used:List Nat} {v:AV} {id:Nat} (h:id∈used):id∈rQ used v:=by
 unfold rQ
 split
 ·exact List.mem_cons_of_mem _ h
 ·exact h
def zJ (R1:af) (w:World) (used:List Nat) (v:AV) (c:Value) (p:RP) (y:p.T):Prop:=
 ∃ bs:List Nat,bs.length=p.no∧(∀ b∈bs,∃ id,id∉used∧id∈rQ used v∧nth R1.obj id=some (.bi b)) ∧
   ∀ (R2:af) (n:Nat),(∀ b o,R1.I b o→R2.I b o)→vN R2 n bs→Rel R2 w (p.enc n y) c∧Er R2 w (p.Dh y) bs
theorem Vh {R1 R2:af} (hI:∀ b o,R1.I b o→R2.I b o):Mv R1 R2 0:=⟨hI,fun _ _ h=>absurd h (Nat.not_lt_zero _)⟩
theorem RP.NP {used:List Nat} {p:aq} {v:AV} {c:Value} {y:p.T} (hp:p.under 0=true) (hv:Rel R1 w v c) (hd:p.dec v=some y):zJ R1 w used v c (.Mo p) y:=
 ⟨[],rfl,(fun b hb=>by cases hb),fun R2 n hI _=>⟨Rel.move (Vh hI) (p.cY y hp) ((p.oD hd).fB _ _ _ hv),fun k go b h=>by cases k <;> cases h⟩⟩
theorem RP.RE {used:List Nat} {ps:aG} {v:AV} {c:Value} {y:ps.T} (hp:ps.under 0=true) (hv:Rel R1 w v c) (hd:Ep ps v=some y):zJ R1 w used v c (.ep ps) y:=by
 obtain ⟨cs,rfl,hd⟩:=HF hd
 cases hv with
 | ep hc=>
 exact ⟨[],rfl,(fun b hb=>by cases hb),fun R2 n hI _=>⟨.ep (dN.move (Vh hI) ((ps.oD hd).1.Gt hc) (ps.cY y hp)),fun k go b h=>by cases k <;> cases h⟩⟩
theorem RP.NQ {G1:List GO} (hg:dO E R1 w G1) {used:List Nat} {pe:aq} {v:AV} {c:Value} {y:List pe.T} (hp:pe.under 0=true) (hv:Rel R1 w v c) (hd:zI G1 used pe v=some y):zJ R1 w used v c (.map pe) y:=by
 obtain ⟨id,es,rfl,Av,hu,YN⟩:=FC hd
 cases hv with
 | map hb=>
 rename_i b
 refine ⟨[b],rfl,fun b' iQ=>?_,fun R2 n hI lf=>⟨.map (by have:=lf 0 b rfl; simpa using this),fun k go b' h1 h2=>?_⟩⟩
 ·rw [List.mem_singleton] at iQ
  subst iQ
  exact ⟨id,hu,List.mem_cons_self,hb⟩
 ·cases k with
  | succ k=>cases h2
  | zero=>
   cases h1; cases h2
   obtain ⟨ay,clock,e1,e2,e3⟩:=hg.obj id _ _ Av hb
   exact ⟨ay,clock,e1,cV.Mp (Vh hI) YN (aq.vM hp y) e2,e3⟩
theorem RP.ok {G1:List GO} (hg:dO E R1 w G1) {used:List Nat} {p:RP} {v:AV} {c:Value} {y:p.T} (hp:p.under=true) (hv:Rel R1 w v c) (hd:p.dec G1 used v=some y):zJ R1 w used v c p y:=by
 cases p with
 | Mo p=>exact RP.NP hp hv hd
 | ep ps=>exact RP.RE hp hv hd
 | map pe=>exact RP.NQ hg hp hv hd
theorem ft {α:Type} {l r:List α} {i:Nat} (h:i < l.length):nth (l++r) i=nth l i:=by
 rw [aE,aE,List.getElem?_append_left h]
theorem eH {α:Type} {l r:List α} (i:Nat):nth (l++r) (l.length+i)=nth r i:=by
 rw [aE,aE,List.getElem?_append_right (Nat.le_add_right _ _),Nat.add_sub_cancel_left]
theorem nJ {α:Type} {l:List α} {i:Nat} {x:α} (h:nth l i=some x):i < l.length:=by
 rw [aE] at h
 exact (List.getElem?_eq_some_iff.1 h).1
theorem WX.ok {G1:List GO} (hg:dO E R1 w G1):∀ {l:List RP} {used:List Nat} {vs:List AV} {cs:List Value} {y:rP l},l.all RP.under=true→aA R1 w vs cs→rR G1 used l vs=some y →
  ∃ bs:List Nat,bs.length=(fL l y).length∧bs.Nodup∧(∀ b∈bs,∃ id,id∉used∧nth R1.obj id=some (.bi b)) ∧
   ∀ (R2:af) (n:Nat),(∀ b o,R1.I b o→R2.I b o)→vN R2 n bs→aA R2 w (mW n l y) cs∧Er R2 w (fL l y) bs
 | [],used,vs,cs,y,_,hv,hd=>by
  cases vs with
  | cons _ _=>cases hd
  | nil=>
  cases hv
  exact ⟨[],rfl,List.nodup_nil,(fun b hb=>by cases hb),fun R2 n _ _=>⟨.nil,fun k go b h=>by simp [fL,nth] at h⟩⟩
 | [p],used,vs,cs,y,hu,hv,hd=>by
  match vs,hv,hd with
  | [],_,hd=>cases hd
  | _ :: _ :: _,_,hd=>cases hd
  | [v],.cons hv .nil,hd=>
  have hu:p.under=true:=by simpa using hu
  obtain ⟨bs,h1,h2,h4⟩:=RP.ok hg hu hv hd
  refine ⟨bs,h1.trans (p.Mq y).symm,?_,fun b hb=>let ⟨id,q1,_,q2⟩:=h2 b hb; ⟨id,q1,q2⟩,fun R2 n hI lf=>?_⟩
  ·have:bs.length≤1:=by rw [h1]; cases p <;> simp [RP.no]
   match bs,this with
   | [],_=>exact List.nodup_nil
   | [b],_=>simp
   | _ :: _ :: _,h=>simp at h
  ·obtain ⟨k1,k2⟩:=h4 R2 n hI lf
   exact ⟨.cons k1 .nil,k2⟩
 | p :: q :: l,used,vs,cs,y,hu,hv,hd=>by
  match vs,hv,hd with
  | [],_,hd=>cases hd
  | v :: vs,.cons (c:=c) (cs:=cs) hv U0,hd=>
  simp only [List.all_cons,Bool.and_eq_true] at hu
  obtain ⟨YO,Vi⟩:=hu
  have Vi:(q :: l).all RP.under=true:=by simpa using Vi
  have hd:((p.dec G1 used v).bind fun x=>(rR G1 (rQ used v) (q :: l) vs).bind fun y=>some (x,y))=some y:=hd
  cases hx:p.dec G1 used v with
  | none=>rw [hx] at hd; cases hd
  | some x=>
  rw [hx] at hd
  simp only [Option.bind_some] at hd
  cases hz:rR G1 (rQ used v) (q :: l) vs with
  | none=>rw [hz] at hd; cases hd
  | some z=>
  rw [hz] at hd
  simp only [Option.bind_some] at hd
  cases hd
  obtain ⟨bs,h1,h2,h4⟩:=RP.ok hg YO hv hx
  obtain ⟨WY,k1,k0,k2,k4⟩:=WX.ok hg Vi U0 hz
  have Jk:bs.length=(p.Dh x).length:=h1.trans (p.Mq x).symm
  refine ⟨bs++WY,?_,?_,fun b hb=>?_,fun R2 n hI lf=>?_⟩
  ·show _=(p.Dh x++fL (q :: l) z).length
   rw [List.length_append,List.length_append,Jk,k1]
  ·have EW:bs.Nodup:=by
    have:bs.length≤1:=by rw [h1]; cases p <;> simp [RP.no]
    match bs,this with
    | [],_=>exact List.nodup_nil
    | [b],_=>simp
    | _ :: _ :: _,h=>simp at h
   rw [List.nodup_append]
   refine ⟨EW,k0,fun a ha b hb e=>?_⟩
   subst e
   obtain ⟨id,_,q2,q3⟩:=h2 a ha
   obtain ⟨gb,r1,r2⟩:=k2 a hb
   have:id=gb:=hg.inj id gb _ _ a q3 r2 rfl rfl
   subst this
   exact r1 q2
  ·rcases List.mem_append.1 hb with hb | hb
   ·obtain ⟨id,q1,_,q2⟩:=h2 b hb
    exact ⟨id,q1,q2⟩
   ·obtain ⟨id,q1,q2⟩:=k2 b hb
    exact ⟨id,fun hm=>q1 (Di hm),q2⟩
  ·have YP:vN R2 n bs:=fun k b hk=>lf k b (by rw [ft (nJ hk)]; exact hk)
   have YQ:vN R2 (n+p.no) WY:=fun k b hk=>by
    have:=lf (bs.length+k) b (by rw [eH]; exact hk)
    rw [h1] at this
    rw [Nat.add_assoc]; exact this
   obtain ⟨a1,a2⟩:=h4 R2 n hI YP
   obtain ⟨b1,b2⟩:=k4 R2 (n+p.no) hI YQ
   refine ⟨.cons a1 b1,fun k go b fc hb=>?_⟩
   change nth (p.Dh x++fL (q :: l) z) k=some go at fc
   rcases Nat.lt_or_ge k bs.length with hk | hk
   ·rw [ft (by rw [← Jk]; exact hk)] at fc
    rw [ft hk] at hb
    exact a2 k go b fc hb
   ·obtain ⟨j,rfl⟩:∃ j,k=bs.length+j:=⟨k - bs.length,by omega⟩
    rw [eH] at hb
    rw [Jk,eH] at fc
    exact b2 j go b fc hb
theorem vO:∀ (l:List RP) (n:Nat) (y:rP l),(mW n l y).length=l.length
 | [],_,_=>rfl
 | [_],_,_=>rfl
 | p :: q :: l,n,y=>by
  show (mW (n+p.no) (q :: l) y.2).length+1=(q :: l).length+1
  rw [vO (q :: l)]
theorem vL.YR {R0:af} {w0:World} {f:RF} {G G1:List GO} {r:AV} {c:Value} {y:rP f.l} (hf:f.under=true) (hG:dO E R0 w0 G) (st:Step ⟨R0.I,[]⟩ w0 (fun _=>0) gq R1 w (fun _=>0) gq) (hg:dO E R1 w G1) (dq:Rel R1 w r c) (hd:f.dec G1 r=some y) :
  ∃ R2,Rel R2 w (f.val G.length y) c∧dO E R2 w (G++fL f.l y)∧Step R0 w0 (fun _=>0) gq R2 w (fun _=>0) gq:=by
 unfold RF.under at hf
 rw [Bool.and_eq_true] at hf
 unfold RF.dec at hd
 obtain ⟨ht,hd⟩:f.yk r=true∧rR G1 [] f.l (f.args r)=some y:=by
  cases ht:f.yk r with
  | true=>rw [ht] at hd; exact ⟨rfl,hd⟩
  | false=>rw [ht] at hd; cases hd
 obtain ⟨cs,nS,RG⟩:∃ cs,aA R1 w (f.args r) cs∧∀ R2 (x:rP f.l) n,aA R2 w (mW n f.l x) cs→Rel R2 w (f.val n x) c:=by
  unfold RF.args RF.val
  cases Vj:f.bt with
  | true=>
   have:∃ vs,r=.bt vs:=by
    cases r <;> first | exact ⟨_,rfl⟩ | (simp [RF.yk,Vj] at ht)
   obtain ⟨vs,rfl⟩:=this
   cases dq with
   | bt h=>exact ⟨_,h,fun R2 x n h=>.bt h⟩
  | false=>
   refine ⟨[c],.cons dq .nil,fun R2 x n h=>?_⟩
   simp only [cond_false]
   have hlen:=vO f.l n x
   revert h hlen
   generalize mW n f.l x=l
   intro h hlen
   cases h with
   | cons h _=>exact h
 obtain ⟨bs,h1,h2,h3,h4⟩:=WX.ok hg hf.1 nS hd
 have jr:∀ b,¬ Own (⟨R0.I,[]⟩:af) (fun _=>0) gq b:=fun b ho=>by
  obtain ⟨id,ro,q1,_⟩:=eF ho
  simp [nth] at q1
 have ly:∀ b∈bs,w0.heap.size≤b:=fun b hb=>by
  obtain ⟨id,_,hid⟩:=h3 b hb
  rcases Nat.lt_or_ge b w0.heap.size with bM | qS
  ·exact absurd (st.own b bM (.inl ⟨id,_,hid,rfl⟩)) (jr b)
  ·exact qS
 let R2:af:=⟨R1.I,R0.obj++bs.map RO.bi⟩
 have e:Ext R0 w0 R2 w:=⟨st.ext.I,st.ext.cell,fun id ro h=>⟨ro,by rw [ft (nJ h)]; exact h,bI.refl ro⟩,st.ext.lp⟩
 have bl:∀ b,b < w0.heap.size→w.heap[b]?=w0.heap[b]?:=fun b hb=>st.bl b hb (jr b)
 have im:∀ b o,b < w0.heap.size→R1.I b o→R0.I b o:=fun b o hb hi=>st.im b o hi hb (jr b)
 have Vk:∀ {k ro},nth (bs.map RO.bi) k=some ro→∃ b,nth bs k=some b∧ro=.bi b:=fun {k ro} h=>by
  rw [aE,List.getElem?_map] at h
  cases hb:bs[k]? with
  | none=>rw [hb] at h; cases h
  | some b=>rw [hb] at h; exact ⟨b,by rw [aE]; exact hb,(Option.some.inj h).symm⟩
 have lf:vN R2 R0.obj.length bs:=fun k b hk=>by
  show nth (R0.obj++bs.map RO.bi) (R0.obj.length+k)=_
  rw [eH,aE,List.getElem?_map]
  rw [aE] at hk
  rw [hk]; rfl
 obtain ⟨k1,k2⟩:=h4 R2 R0.obj.length (fun _ _ h=>h) lf
 rw [hG.len] at k1
 have hold:∀ id ro,nth R2.obj id=some ro→nth R0.obj id=some ro∨∃ k b,id=R0.obj.length+k∧nth bs k=some b∧ro=.bi b:=fun id ro h=>by
  rcases Nat.lt_or_ge id R0.obj.length with bM | qS
  ·exact .inl (by rw [← ft (r:=bs.map RO.bi) bM]; exact h)
  ·obtain ⟨k,rfl⟩:∃ k,id=R0.obj.length+k:=⟨id - R0.obj.length,by omega⟩
   have h:nth (R0.obj++bs.map RO.bi) (R0.obj.length+k)=some ro:=h
   rw [eH] at h
   obtain ⟨b,q1,q2⟩:=Vk h
   exact .inr ⟨k,b,rfl,q1,q2⟩
 have Mr:∀ id ro b,nth R0.obj id=some ro→ro.has b→b < w0.heap.size:=fun id ro b h hb=>by
  have hl:=nJ h
  rw [hG.len] at hl
  have fc:nth G id=some G[id]:=by rw [aE]; exact List.getElem?_eq_getElem hl
  exact (hG.obj id _ _ fc h).lt hb
 have NR:∀ {k b},nth bs k=some b→b∈bs:=fun {k b} h=>by
  rw [aE] at h
  exact List.mem_of_getElem? h
 refine ⟨R2,RG R2 y _ k1,⟨?_,fun id go ro q1 q2=>?_,fun i j ri rj b q1 q2 b1 b2=>?_,hg.wf,fun g cs s8=>(hG.cG g cs s8).mono e,hg.lo⟩,⟨e,st.os,st.tape,st.output,st.size,fun b hb _=>bl b hb,fun b hb ho=>?_,fun b o hi hb _=>im b o hb hi⟩⟩
 ·show (R0.obj++bs.map RO.bi).length=_
  rw [List.length_append,List.length_map,List.length_append,hG.len,h1]
 ·rcases hold id ro q2 with q2 | ⟨k,b,rfl,q3,rfl⟩
  ·have hl:=nJ q2
   rw [hG.len] at hl
   rw [ft hl] at q1
   refine (hG.obj id go ro q1 q2).mono e (fun b hb=>bl b ?_) (fun b o hb hi=>im b o ?_ hi)
   ·exact (hG.obj id go ro q1 q2).lt hb
   ·exact (hG.obj id go ro q1 q2).lt hb
  ·rw [hG.len,eH] at q1
   exact k2 k go b q1 q3
 ·rcases hold i ri q1 with q1 | ⟨k,a,rfl,q3,rfl⟩
  ·rcases hold j rj q2 with q2 | ⟨k',a',rfl,q4,rfl⟩
   ·exact hG.inj i j ri rj b q1 q2 b1 b2
   ·have:b=a':=b2
    subst this
    have:=ly _ (NR q4)
    have:=Mr i ri b q1 b1
    omega
  ·have YS:b=a:=b1
   subst YS
   rcases hold j rj q2 with q2 | ⟨k',a',rfl,q4,rfl⟩
   ·have:=ly _ (NR q3)
    have:=Mr j rj b q2 b2
    omega
   ·have:b=a':=b2
    subst this
    have l1:=nJ q3
    have l2:=nJ q4
    rw [aE] at q3 q4
    have:=(List.getElem?_inj l1 h2).1 (q3.trans q4.symm)
    omega
 ·rcases eF ho with ⟨id,ro,q1,q2⟩
  rcases hold id ro q1 with q1 | ⟨k,a,rfl,q3,rfl⟩
  ·exact .inl ⟨id,ro,q1,q2⟩
  ·have:b=a:=q2
   subst this
   have:=ly _ (NR q3)
   omega
theorem Es {G1:List GO} {r:AV}:∀ {outs:List RF} {y:XT outs},HE G1 r outs=some y→(∀ f∈outs,f.under=true) →
  ∃ (f:RF) (z:rP f.l),f.under=true∧f.dec G1 r=some z∧∀ {α:Type} (G:List GO) (K:AV→List GO→α),Qw G K outs y=K (f.val G.length z) (G++fL f.l z)
 | [],_,h,_=>by cases h
 | [f],y,h,hu=>⟨f,y,hu f (by simp),h,fun _ _=>rfl⟩
 | f :: g :: l,y,h,hu=>by
  simp only [HE] at h
  cases hb:(f.yk r&&HD f.l (f.args r)) with
  | true=>
   rw [hb] at h
   simp only [cond_true] at h
   cases hx:f.dec G1 r with
   | none=>rw [hx] at h; cases h
   | some x=>
    rw [hx] at h
    cases h
    exact ⟨f,x,hu f (by simp),hx,fun _ _=>rfl⟩
  | false=>
   rw [hb] at h
   simp only [cond_false] at h
   cases hx:HE G1 r (g :: l) with
   | none=>rw [hx] at h; cases h
   | some x=>
    rw [hx] at h
    cases h
    obtain ⟨f',z,k0,k1,k2⟩:=Es hx (fun f hf=>hu f (List.mem_cons_of_mem _ hf))
    exact ⟨f',z,k0,k1,fun G K=>k2 G K⟩
theorem vL.of {g:FuncId} {args:List AV} {outs:List RF} {Q:XT outs→Prop} (hc:aC 0 args=true) (hp:∀ f∈outs,f.under=true)
  (h:cC E g args [] (fun r G'=>∃ y,HE G' r outs=some y∧Q y)):vL E g args outs Q:=fun G=>by
 refine ⟨h.1,fun R w cs hg hl=>?_⟩
 let R0:af:=⟨R.I,[]⟩
 have m0:Mv R R0 0:=⟨fun _ _ h=>h,fun _ _ h=>absurd h (Nat.not_lt_zero _)⟩
 have Qm:dO E R0 w []:=⟨rfl,fun id go ro h1 _=>by simp [nth] at h1,fun i j ri rj b h1=>by simp [R0,nth] at h1,hg.wf,fun g cs s8=>(hg.cG g cs s8).move m0 (b7 _ (E.yK g cs s8)),hg.lo⟩
 have tC:aA R0 w args cs:=hl.move m0 hc
 refine (h.2 R0 w cs Qm tC).mono fun e w' he=>?_
 cases e with
 | panicked c=>exact he.elim
 | outgrown=>exact he.elim
 | returned c=>
  obtain ⟨r,G',R1,⟨y,hy,hQ⟩,dq,NM,st⟩:=he
  obtain ⟨f,z,hf,hz,fc⟩:=Es hy hp
  obtain ⟨R2,k1,k2,k3⟩:=vL.YR hf hg st NM dq hz
  refine ⟨_,_,R2,⟨y,hQ,?_⟩,k1,k2,k3⟩
  rw [fc]
  exact ⟨rfl,rfl⟩
end
end Go.Am
namespace Go.Am
open Go
def qj (s:St) (t:Tmp) (sz:Nat) (e:TypeId):Option (Bool × St):=match lk s.ab t with
 | .v (.list (.own id) aT es)=>match nth s.G id with
  | some (.tok f pd e2)=>if Nat.beq aT sz&&(Nat.beq pd sz&&Nat.beq e2 e) then
    some (decide (f=es.length),⟨.put t (.v (.list .gA sz es)) :: s.ab,s.boxes,au s.G id .dead,s.marks,s.ro,s.n⟩) else none
  | _=>none
 | _=>none
def sK (s:St) (t:Tmp) (sz:Nat) (e:TypeId):Option St:=match lk s.ab t with
 | .v (.list _ aT es)=>if Nat.beq aT sz then some ⟨.put t (.v (.list (.own s.G.length) sz es)) :: s.ab,s.boxes,s.G++[.tok es.length sz e],s.marks,s.ro,s.n⟩ else none
 | _=>none
section
variable {E:Env} {R:af} {w:World} {β:Nat→Nat} {s:St} {a:Act}
def oR (R:af) (w:World) (β:Nat→Nat) (bx:bX) (c:Value) (n sz:Nat) (e:TypeId) (ro:RO):Prop:=
 fa R w (.tok n sz e) ro∧(∀ b,ro.has b→¬ Live R b∧∀ k cs,cO bx k=some cs→β k≠b) ∧
  ((c=.slice none 0 0∧ro=.aN)∨∃ b o len cap,c=.slice (some ⟨b,o,none⟩) len cap∧len=n∧Gk b o len cap ro)
theorem oR.mono {R R':af} {bx DO:bX} {c:Value} {n sz:Nat} {e:TypeId} {ro:RO} (h:oR R w β bx c n sz e ro) (hI:R'.I=R.I) (hl:∀ b,Live R' b→Live R b) (hb:∀ k cs,cO DO k=some cs→∃ dB,cO bx k=some dB):oR R' w β DO c n sz e ro:=by
 obtain ⟨h1,h2,h3⟩:=h
 refine ⟨?_,fun b Gr=>⟨fun q=>(h2 b Gr).1 (hl b q),fun k cs hk=>let ⟨dB,fA⟩:=hb k cs hk; (h2 b Gr).2 k dB fA⟩,h3⟩
 cases ro with
 | tok f g c k=>
  obtain ⟨q1,cur,q2,q3,q4,q5,q6⟩:=h1
  exact ⟨q1,cur,q2,q3,q4,q5,fun o ho=>by rw [hI]; exact q6 o ho⟩
 | aN=>exact h1
 | none=>exact h1.elim
 | bi _=>exact h1.elim
 | aH _=>exact h1.elim
theorem yl {t:Tmp} {sz:Nat} {e:TypeId} {s':St} (h:aL E R w β s a) (hs:qj s t sz e=some (true,s')) :
  ∃ R' c ro es,aL E R' w β s' a∧Step R w β s.boxes R' w β s'.boxes∧s'.ro=s.ro∧az s s'∧s'.boxes=s.boxes∧lk s'.ab t=.v (.list .gA sz es)∧a.tmps[t]?=some c∧oR R' w β s'.boxes c es.length sz e ro∧∀ b,ro.has b→Live R b:=by
 unfold qj at hs
 split at hs
 ·rename_i id aT es ht
  split at hs
  ·rename_i f pd e2 hid
   split at hs
   ·rename_i bF
    simp only [Bool.and_eq_true] at bF
    have q1:=Nat.eq_of_beq_eq_true bF.1
    have q2:=Nat.eq_of_beq_eq_true bF.2.1
    have q3:=Nat.eq_of_beq_eq_true bF.2.2
    subst q1; subst q2; subst q3
    injection hs with hs; injection hs with hc hs
    have hf:=of_decide_eq_true hc
    subst hf
    obtain ⟨c,k1,k2⟩:=h.t t (by rw [ht]; simp)
    rw [ht] at k2
    have k2:Rel R w (.list (.own id) pd es) c:=k2
    obtain ⟨ro,aR⟩:∃ ro,nth R.obj id=some ro:=by
     have bM:=aQ hid
     rw [← h.g.len] at bM
     exact ⟨R.obj[id],by rw [aE,List.getElem?_eq_getElem bM]⟩
    have bh:=h.g.obj id _ _ hid aR
    let R':af:=⟨R.I,au R.obj id .none⟩
    have hle:bI ro .none:=by cases ro <;> first | trivial | exact bh.elim
    have ext:Ext R w R' w:=⟨fun _ _ h=>h,fun _ _ _=>rfl,fun i r hr=>by
     by_cases ei:id=i
     ·subst ei
      rw [aR] at hr
      cases hr
      exact ⟨_,aj aR,hle⟩
     ·exact ⟨r,by rw [aB ei]; exact hr,bI.refl r⟩,dI.refl w⟩
    have hinv:∀ {i:Nat} {r:RO},nth R'.obj i=some r→(i=id∧r=.none)∨(i≠id∧nth R.obj i=some r):=fun hr=>ap aR hr
    have live:∀ b,Live R' b→Live R b:=fun b ⟨i,r,l1,l2⟩=>by
     rcases hinv l1 with ⟨_,rfl⟩ | ⟨_,l1⟩
     ·exact l2.elim
     ·exact ⟨i,r,l1,l2⟩
    have hex:az s s':=by subst hs; exact ⟨⟨[_],rfl⟩,⟨[],rfl⟩,rfl⟩
    have RH:Rel R' w (.list .gA pd es) c:=by
     cases k2 with
     | jl _ _=>exact .gl
     | list hr hl dW _=>exact Rel.list (hr.mono ext) hl dW trivial
    have zn:oR R' w β s'.boxes c es.length pd e2 ro:=by
     refine ⟨?_,fun b hb=>⟨fun ⟨i,r,l1,l2⟩=>?_,fun k cs hk he=>?_⟩,?_⟩
     ·cases ro <;> first | exact bh | exact bh.elim
     ·rcases hinv l1 with ⟨_,rfl⟩ | ⟨bW,l1⟩
      ·exact l2.elim
      ·exact bW (h.g.inj i id r ro b l1 aR l2 hb)
     ·subst hs
      exact (h.b.box k cs hk).2.2 ⟨id,ro,aR,by rw [he]; exact hb⟩
     ·cases k2 with
      | jl h1 h2=>
       rw [aR] at h1
       cases h1
       refine .inl ⟨rfl,?_⟩
       cases ro with
       | aN=>rfl
       | none=>exact bh.elim
       | bi _=>exact bh.elim
       | aH _=>exact bh.elim
       | tok f g c k=>
        obtain ⟨q,_⟩:=bh
        simp only [List.length_nil] at q
        simp only [kh] at h2
        omega
      | @list _ _ _ b o len cap hr hl dW hk=>
       obtain ⟨r',h1,h2⟩:=hk
       rw [aR] at h1
       cases h1
       exact .inr ⟨b,o,len,cap,rfl,hl,h2⟩
    refine ⟨R',c,ro,es,?_,?_,by subst hs; rfl,hex,by subst hs; rfl,by subst hs; exact aw _ _ _,k1,zn,fun b hb=>⟨id,ro,aR,hb⟩⟩
    ·subst hs
     refine ⟨⟨by simp [R',h.g.len],fun i gg r g1 g2=>?_,fun i j ri rj b g1 g2 b1 b2=>?_,h.g.wf,fun g cs hg=>(h.g.cG g cs hg).mono ext,h.g.lo⟩,h.b.bl ext (fun _ _ _=>rfl) (fun _ _ _ _ hi=>hi) (fun _ _ _ hl=>live _ hl),fun i hi=>?_,h.n,h.d.mono ext⟩
     ·rcases hinv g2 with ⟨rfl,rfl⟩ | ⟨bW,g2⟩
      ·rw [aj hid] at g1
       cases g1
       trivial
      ·rw [aB (Ne.symm bW)] at g1
       exact (h.g.obj i gg r g1 g2).mono ext (fun _ _=>rfl) (fun _ _ _ hi=>hi)
     ·rcases hinv g1 with ⟨_,rfl⟩ | ⟨_,g1⟩
      ·exact b1.elim
      ·rcases hinv g2 with ⟨_,rfl⟩ | ⟨_,g2⟩
       ·exact b2.elim
       ·exact h.g.inj i j ri rj b g1 g2 b1 b2
     ·by_cases e:t=i
      ·subst e
       rw [aw]
       exact ⟨c,k1,RH⟩
      ·rw [aD e] at hi ⊢
       obtain ⟨c',l1,l2⟩:=h.t i hi
       exact ⟨c',l1,l2.mono ext⟩
    ·subst hs
     refine ⟨ext,rfl,rfl,rfl,Nat.le_refl _,fun _ _ _=>rfl,fun b _ ho=>?_,fun _ _ hi _ _=>hi⟩
     rcases ho with ho | ho
     ·exact .inl (live b ho)
     ·exact .inr ho
   ·cases hs
  ·cases hs
 ·cases hs
theorem FD {t:Tmp} {sz:Nat} {e:TypeId} {c:Value} {n:Nat} {ro:RO} {s':St} (h:aL E R w β s a) (hs:sK s t sz e=some s') (hc:a.tmps[t]?=some c) (ho:oR R w β s.boxes c n sz e ro) :
  aL E (R.add ro) w β s' a∧s'.boxes=s.boxes∧s'.ro=s.ro∧az s s':=by
 unfold sK at hs
 split at hs
 ·rename_i k aT es hl
  split at hs
  ·rename_i hz
   have hz:=Nat.eq_of_beq_eq_true hz
   subst hz
   cases hs
   obtain ⟨o1,o2,o3⟩:=ho
   obtain ⟨c',k1,k2⟩:=h.t t (by rw [hl]; simp)
   rw [hc] at k1
   cases k1
   rw [hl] at k2
   have k2:Rel R w (.list k aT es) c:=k2
   have ext:Ext R w (R.add ro) w:=⟨fun _ _ h=>h,fun _ _ _=>rfl,fun _ r hr=>⟨r,bf hr,bI.refl r⟩,dI.refl w⟩
   have ly:nth (R.add ro).obj s.G.length=some ro:=by rw [← h.g.len]; exact dp _ _
   have dq:es.length=n∧Rel (R.add ro) w (.list (.own s.G.length) aT es) c:=by
    rcases o3 with ⟨rfl,rfl⟩ | ⟨b,o,len,cap,rfl,rfl,hk⟩
    ·have hn:n=0:=o1
     subst hn
     cases k2 <;> exact ⟨rfl,Rel.jl ly trivial⟩
    ·cases k2 with
     | ki=>exact ⟨rfl,Rel.list .nil rfl (Nat.le_refl _) ⟨_,ly,hk⟩⟩
     | list hr hlen dW _=>exact ⟨hlen.symm,Rel.list (hr.mono ext) hlen dW ⟨_,ly,hk⟩⟩
   obtain ⟨hn,dq⟩:=dq
   subst hn
   refine ⟨⟨⟨by simp [af.add,h.g.len],fun i gg r g1 g2=>?_,fun i j ri rj b g1 g2 b1 b2=>?_,h.g.wf,fun g cs hg=>(h.g.cG g cs hg).mono ext,h.g.lo⟩,h.b.bl ext (fun _ _ _=>rfl) (fun _ _ _ _ hi=>hi) (fun k cs hk hl=>?_),fun i hi=>?_,h.n,h.d.mono ext⟩,rfl,rfl,⟨⟨[_],rfl⟩,⟨[],rfl⟩,rfl⟩⟩
   ·rcases ah g2 with Qx | ⟨g3,rfl⟩
    ·rcases ah g1 with wL | ⟨g4,_⟩
     ·exact (h.g.obj i gg r wL Qx).mono ext (fun _ _=>rfl) (fun _ _ _ hi=>hi)
     ·have:=aQ Qx
      rw [h.g.len] at this
      omega
    ·rcases ah g1 with wL | ⟨g4,rfl⟩
     ·have:=aQ wL
      rw [g3,h.g.len] at this
      omega
     ·cases r <;> first | exact o1 | exact o1.elim
   ·rcases ah g1 with wL | ⟨g3,e1⟩
    ·rcases ah g2 with Qx | ⟨g4,e2⟩
     ·exact h.g.inj i j ri rj b wL Qx b1 b2
     ·rw [e2] at b2
      exact absurd ⟨i,ri,wL,b1⟩ (o2 b b2).1
    ·rcases ah g2 with Qx | ⟨g4,e2⟩
     ·rw [e1] at b1
      exact absurd ⟨j,rj,Qx,b2⟩ (o2 b b1).1
     ·omega
   ·rcases hJ hl with hl | hl
    ·exact hl
    ·exact absurd rfl ((o2 _ hl).2 k cs hk)
   ·by_cases e:t=i
    ·subst e
     rw [aw]
     exact ⟨c,hc,dq⟩
    ·rw [aD e] at hi ⊢
     obtain ⟨c',l1,l2⟩:=h.t i hi
     exact ⟨c',l1,l2.mono ext⟩
  ·cases hs
 ·cases hs
theorem ym {R0 R1 R2 R3:af} {w w2:World} {β β2:Nat→Nat} {WZ:bX} {s1 s2 s3 s4:St} {a a2:Act} {tm:bw} {v:tm.ps.T} {t:Tmp} {sz n:Nat} {e:TypeId} {c:Value} {ro:RO}
  (h1:aL E R1 w β s1 a) (hn:R0.obj.length=s1.G.length) (hx:az s1 s3) (hE:Ext R1 w R3 w2) (st:Step R0 w β WZ R2 w2 β2 s2.boxes) (h3:aL E R3 w2 β2 s3 a2) (Kg:Step R2 w2 β2 s2.boxes R3 w2 β2 s3.boxes)
  (hc:a2.tmps[t]?=some c) (ho:oR R3 w2 β2 s3.boxes c n sz e ro) (hl:∀ b,ro.has b→Live R2 b) (hd:tm.dec s1 s3=some v) (hr:sK (tm.st s1 v) t sz e=some s4) :
  ∃ R4,aL E R4 w2 β2 s4 a2∧Step R0 w β WZ R4 w2 β2 s4.boxes∧Ext R1 w R4 w2∧s4.ro=(tm.st s1 v).ro∧az (tm.st s1 v) s4:=by
 obtain ⟨q1,q2,q3⟩:=bw.NK hx h1 h3 hE hd
 obtain ⟨p1,p2,p3,p4⟩:=FD q1 hr hc (ho.mono rfl (fun b hb=>mU hb) q3)
 have ext:Ext (R3.cut s1.G.length) w2 ((R3.cut s1.G.length).add ro) w2:=⟨fun _ _ h=>h,fun _ _ _=>rfl,fun _ r hr=>⟨r,bf hr,bI.refl r⟩,dI.refl w2⟩
 have Dj:=st.trans Kg
 refine ⟨_,p1,⟨⟨Dj.ext.I,Dj.ext.cell,fun id r hid=>?_,Dj.ext.lp⟩,st.os,st.tape,st.output,st.size,st.bl,fun b hb CO=>?_,fun b o hi hb my=>Dj.im b o hi hb my⟩,q2.trans ext,p3,p4⟩
 ·obtain ⟨r',g1,g2⟩:=Dj.ext.obj id r hid
  have:=aQ hid
  exact ⟨r',bf (gv.2 ⟨by omega,g1⟩),g2⟩
 ·have Aj:b < w2.heap.size:=Nat.lt_of_lt_of_le hb st.size
  rcases CO with CO | ⟨k,cs,hk,rfl⟩
  ·rcases hJ CO with CO | CO
   ·exact Dj.own b hb (.inl (mU CO))
   ·exact st.own b hb (.inl (hl b CO))
  ·rw [p2] at hk
   obtain ⟨dB,fA⟩:=q3 k cs hk
   exact Dj.own _ hb (.inr ⟨k,dB,fA,rfl⟩)
end
end Go.Am
