/- The abstract machine: ranges over functions. -/
import Derived.Test.YtophnjjjmikmeaaGreatAmKJ
import Derived.RangeFuncIn
import Derived.RangeFuncRecord
import Derived.RangeFuncNested
set_option linter.all false
namespace Go.Am
open Go
def eR:a8→a8
 | []=>[]
 | .put d (.lp _ _) :: l=>.put d .none :: eR l
 | .put d x :: l=>.put d x :: eR l
 | .kill _ :: l=>eR l
def SV.yO:SV→SV
 | .lp _ _=>.none
 | x=>x
theorem oC (t:Nat):∀ l:a8,lk (eR l) t=(lk l t).yO
 | []=>rfl
 | .put d x :: l=>by
  cases x <;> simp only [eR] <;> by_cases e:d=t <;> first | (subst e; rw [ax,ax]; rfl) | (rw [aI e,aI e]; exact oC t l)
 | .kill d :: l=>by
  simp only [eR,lk]
  rw [oC t l]
  cases lk l t with
  | lp k off=>
   by_cases e:k=d
   ·subst e; simp [SV.yO]
   ·simp [mj e,SV.yO]
  | _=>rfl
theorem jN:∀ l:a8,FW (eR l)=true
 | []=>rfl
 | .put d x :: l=>by
  cases x <;> simp only [eR,FW] <;> exact jN l
 | .kill d :: l=>by simp only [eR]; exact jN l
def Yw (E:Env) (Q:Exit→St→Prop) (s:St) (G':List GO):Prop:=
 match nth G' (s.G.length+1) with
 | some (.loop busy pending _ _ _ _ _ _ _ done)=>(busy=false∨done=true) ∧
  match pending with
  | none=>Q .normal ⟨s.ae,s.boxes,au G' (s.G.length+1) .dead,s.G.length :: s.marks,s.ro,s.n⟩
  | some c=>eH E c Q ⟨s.ae,s.boxes,au G' (s.G.length+1) .dead,s.G.length :: s.marks,s.ro,s.n⟩
 | _=>False
theorem wZ {busy done:Bool} (h:busy=false∨done=true):(if done=true then LoopState.done else if busy=true then LoopState.busy else LoopState.ready)≠LoopState.busy:=by
 rcases h with rfl | rfl
 ·cases done <;> simp
 ·simp
theorem eH.rangeFunc {E:Env} {Q:Exit→St→Prop} {s:St} (fp:Nat) {g:Operand} {ps:Array Tmp} {assign body:Code} (aU:s.ro=none) {f:FuncId} {first cap:List AV} (hg:bp E s.ae g=.v (.fn f first cap))
  (h:cJ E f (first++[.yield (s.G.length+1)]++cap) (s.G++[.defers true]++[.loop false none fp (eR s.ae) s.n ps.toList assign body s.G.length false]) (fun _ G'=>Yw E Q s G')) :
  eH E (.rangeFunc g ps assign body) Q s:=fun R w β a F hr hf=>by
 rw [aU] at hf
 have UD:F=Fence.wide:=hf
 subst UD
 refine wpIn_rangeFunc fun fn _=>?_
 have rg:=aJ hr g
 rw [hg] at rg
 have U1:Rel R w (.fn f first cap) (a.eval g):=rg
 -- the block for the deferred calls
 have JJ:fO (R.add (.bw w.heap.size)) (w.alloc (.deferred (some []))) (.defers true) (.bw w.heap.size):=heap_alloc_new w _
 have h1:=hr.j6 (.deferred (some [])) (.defers true) (.bw w.heap.size) (by exact fun _ h=>h) JJ
 have s1:=cM hr (.deferred (some [])) (.bw w.heap.size) (by exact fun _ h=>h)
 have dx:(w.alloc (.deferred (some []))).heap.size=w.heap.size+1:=by simp
 generalize X3:w.alloc (.deferred (some []))=w1 at *
 generalize hR1:R.add (.bw w.heap.size)=R1 at *
 -- the loop's record
 let jy:Loop:={ state:=.ready,pending:=none,fn:=fn,tmps:=a.tmps,params:=ps,assign:=assign,body:=body,defers:=w.heap.size }
 have B5:nth R1.obj s.G.length=some (.bw w.heap.size):=by rw [← hR1]; exact fS hr _
 have e2:Ext R1 w1 (R1.add (.bw w1.heap.size)) (w1.alloc (.loop jy)):=fR h1.g.wf _ _
 have Qr:fO (R1.add (.bw w1.heap.size)) (w1.alloc (.loop jy)) (.loop false none fp (eR s.ae) s.n ps.toList assign body s.G.length false) (.bw w1.heap.size):=by
  refine ⟨⟨jy,w.heap.size,heap_alloc_new w1 _,rfl,rfl,fun i hi=>?_,hr.n,by simp [jy],rfl,rfl,rfl,e2.bw B5⟩,jN _⟩
  rw [oC] at hi ⊢
  have cg:lk s.ae i≠.none:=fun e=>hi (by rw [e]; rfl)
  obtain ⟨c,k1,k2⟩:=hr.t i cg
  refine ⟨c,k1,?_⟩
  cases hx:lk s.ae i with
  | none=>exact absurd hx cg
  | lp k off=>rw [hx] at hi; exact absurd rfl hi
  | v x=>
   rw [hx] at k2
   exact Rel.mono (s1.ext.trans e2) (show Rel R w x c from k2)
 have h2:=h1.j6 (.loop jy) (.loop false none fp (eR s.ae) s.n ps.toList assign body s.G.length false) (.bw w1.heap.size) (by exact fun _ h=>h) Qr
 have s2:=cM h1 (.loop jy) (.bw w1.heap.size) (by exact fun _ h=>h)
 have J8:nth (R1.add (.bw w1.heap.size)).obj (s.G.length+1)=some (.bw w1.heap.size):=by
  have:=fS h1 (.bw w1.heap.size)
  simpa [St.df] using this
 have st:=s1.trans s2
 generalize hR2:R1.add (.bw w1.heap.size)=R2 at *
 generalize Qz:a.eval g=fv at U1
 cases U1 with
 | @fn _ _ _ vs us q1 q2=>
 refine ⟨w.heap.size+1,[{ target:=.collected w.heap.size,args:=#[] }],w1.alloc (.loop jy),{ target:=.fn (.func f) ⟨us⟩,args:=⟨vs⟩++#[.func (.yield (w.heap.size+1)) #[] #[]] },w1.alloc (.loop jy),f,
  ⟨vs++[.func (.yield (w.heap.size+1)) #[] #[]]++us⟩,w1.alloc (.loop jy),?_,?_,?_,?_,?_,?_⟩
 ·have:Fence.wide.round=none:=rfl
  rw [this,run_enterLoop_outer,X3]
 ·simp only [resolve,Qz,Deferred.ofValue,Sem.run_pure]
  simp [Act.eval]
 ·intro f' _
  exact trivial
 ·have:=jL (P:=E.P) h.1 (⟨vs++[.func (.yield (w.heap.size+1)) #[] #[]]++us⟩) (w1.alloc (.loop jy))
  simpa [invoke] using this
 ·intro hc; cases hc
 ·have hG:(s.df (.defers true)).df (.loop false none fp (eR s.ae) s.n ps.toList assign body s.G.length false)=s.bn (s.G++[.defers true]++[.loop false none fp (eR s.ae) s.n ps.toList assign body s.G.length false]):=rfl
  have TL:Rel R2 (w1.alloc (.loop jy)) (.yield (s.G.length+1)) (.func (.yield (w.heap.size+1)) #[] #[]):=by
   rw [← dx]
   exact .yield J8
  refine (h.2 R2 (w1.alloc (.loop jy)) _ h2.g ((((q1.mono st.ext).append (.one TL)).append (q2.mono st.ext)))).mono ?_
  intro e w3 he
  cases e with
  | panicked c=>exact he.elim
  | outgrown=>exact he.elim
  | returned c=>
   obtain ⟨r,G',R3,hQ,dh,Yx,M1⟩:=he
   obtain ⟨p1,p2⟩:=h2.oq Yx M1
   unfold Yw at hQ
   split at hQ
   ·rename_i busy pending ff sl nn pp pI bd dd done Fb
    obtain ⟨Yy,hQ⟩:=hQ
    have J9:nth R3.obj (s.G.length+1)=some (.bw w1.heap.size):=M1.ext.bw J8
    obtain ⟨⟨r3,db,l1,l2,l3,_,_,_,_,_,_,_⟩,_⟩:=p1.g.obj _ _ _ Fb J9
    have Fc:r3.state≠.busy:=by rw [l2]; exact wZ Yy
    have l1':w3.heap[w.heap.size+1]?=some (.loop r3):=by rw [← dx]; exact l1
    refine ⟨r3.pending,_,run_endLoop l1' Fc,?_⟩
    rw [l3]
    -- the record is dead
    have U2:nth R3.obj s.G.length=some (.bw w.heap.size):=M1.ext.bw (by rw [← hR2] at e2 ⊢; exact e2.bw B5)
    have key:∀ x:Obj,mr x→(∀ r,Obj.loop r3=.loop r→∃ r',x=.loop r'∧nj r r')→aQ E R3 (World.put w3 w1.heap.size x) β ⟨s.ae,s.boxes,au G' (s.G.length+1) .dead,s.G.length :: s.marks,s.ro,s.n⟩ { a with defers:=[{ target:=.collected w.heap.size,args:=#[] }]++a.defers }∧Step R w β s.boxes R3 (World.put w3 w1.heap.size x) β s.boxes:=fun x hx Yz=>by
     obtain ⟨z1,z2⟩:=p1.setObj (x':=x) (go':=.dead) J9 l1 trivial hx Yz (show w1.heap.size < _ by simp [World.put]; exact bj l1)
     exact ⟨⟨z1.g,z1.b,z1.t,z1.n,⟨⟨w.heap.size,U2,rfl⟩,z1.d⟩⟩,(st.trans p2).trans z2⟩
    obtain ⟨z1,z2⟩:=key (.loop { r3 with state:=.exhausted,pending:=pending }) trivial (fun r e=>⟨_,rfl,by cases e; exact ⟨rfl,rfl,rfl,rfl,rfl⟩⟩)
    rw [dx] at z1 z2
    cases pending with
    | none=>exact ⟨_,R3,β,hQ,z1,z2,rfl⟩
    | some c=>
     refine wpIn_mono (hQ R3 _ β _ Fence.wide z1 (by show bL R3 s.ro Fence.wide; rw [aU]; rfl)) ?_
     rintro e Yd Mp ⟨AH,I7,Pb,JK,vW,oV,tF⟩
     exact ⟨AH,I7,Pb,JK,vW,z2.trans oV,tF⟩
   ·exact hQ.elim
def QQ (E:Env) (Q:Exit→St→Prop) (s:St) (G':List GO):Prop:=
 match nth G' s.G.length with
 | some (.loop busy pending _ _ _ _ _ _ _ done)=>(busy=false∨done=true) ∧
  match pending with
  | none=>Q .normal ⟨s.ae,s.boxes,au G' s.G.length .dead,s.marks,s.ro,s.n⟩
  | some c=>eH E c Q ⟨s.ae,s.boxes,au G' s.G.length .dead,s.marks,s.ro,s.n⟩
 | _=>False
theorem eH.Fe {E:Env} {Q:Exit→St→Prop} {s:St} (fp:Nat) {g:Operand} {ps:Array Tmp} {assign body:Code} {id:Nat} (aU:s.ro=some id)
  {bu0:Bool} {p0:Option Code} {fn0:FuncId} {sl0:a8} {n0:Nat} {ps0:List Tmp} {as0 bd0:Code} {d0:Nat} {dn0:Bool} (aX:nth s.G id=some (.loop bu0 p0 fn0 sl0 n0 ps0 as0 bd0 d0 dn0))
  {f:FuncId} {first cap:List AV} (hg:bp E s.ae g=.v (.fn f first cap))
  (h:cJ E f (first++[.yield s.G.length]++cap) (s.G++[.loop false none fp (eR s.ae) s.n ps.toList assign body d0 false]) (fun _ G'=>QQ E Q s G')) :
  eH E (.rangeFunc g ps assign body) Q s:=fun R w β a F hr hf=>by
 rw [aU] at hf
 obtain ⟨b0,hb0,hF⟩:=hf
 subst hF
 obtain ⟨⟨r0,Ys,x1,x2,x3,x4,x5,x6,x7,x8,x9,x10⟩,x11⟩:=hr.g.obj _ _ _ aX hb0
 refine wpIn_rangeFunc fun fn _=>?_
 have rg:=aJ hr g
 rw [hg] at rg
 have U1:Rel R w (.fn f first cap) (a.eval g):=rg
 -- the loop's record
 let jy:Loop:={ state:=.ready,pending:=none,fn:=fn,tmps:=a.tmps,params:=ps,assign:=assign,body:=body,defers:=r0.defers }
 have e2:Ext R w (R.add (.bw w.heap.size)) (w.alloc (.loop jy)):=fR hr.g.wf _ _
 have Qr:fO (R.add (.bw w.heap.size)) (w.alloc (.loop jy)) (.loop false none fp (eR s.ae) s.n ps.toList assign body d0 false) (.bw w.heap.size):=by
  refine ⟨⟨jy,Ys,heap_alloc_new w _,rfl,rfl,fun i hi=>?_,hr.n,by simp [jy],rfl,rfl,x9,e2.bw x10⟩,jN _⟩
  rw [oC] at hi ⊢
  have cg:lk s.ae i≠.none:=fun e=>hi (by rw [e]; rfl)
  obtain ⟨c,k1,k2⟩:=hr.t i cg
  refine ⟨c,k1,?_⟩
  cases hx:lk s.ae i with
  | none=>exact absurd hx cg
  | lp k off=>rw [hx] at hi; exact absurd rfl hi
  | v x=>
   rw [hx] at k2
   exact Rel.mono e2 (show Rel R w x c from k2)
 have h2:=hr.j6 (.loop jy) (.loop false none fp (eR s.ae) s.n ps.toList assign body d0 false) (.bw w.heap.size) (by exact fun _ h=>h) Qr
 have st:=cM hr (.loop jy) (.bw w.heap.size) (by exact fun _ h=>h)
 have J8:nth (R.add (.bw w.heap.size)).obj s.G.length=some (.bw w.heap.size):=fS hr _
 generalize hR2:R.add (.bw w.heap.size)=R2 at *
 generalize Qz:a.eval g=fv at U1
 cases U1 with
 | @fn _ _ _ vs us q1 q2=>
 refine ⟨w.heap.size,[],w.alloc (.loop jy),{ target:=.fn (.func f) ⟨us⟩,args:=⟨vs⟩++#[.func (.yield w.heap.size) #[] #[]] },w.alloc (.loop jy),f,
  ⟨vs++[.func (.yield w.heap.size) #[] #[]]++us⟩,w.alloc (.loop jy),?_,?_,?_,?_,?_,?_⟩
 ·have:(Fence.wide.inRound b0).round=some b0:=rfl
  rw [this]
  exact run_enterLoop_inner x1 _ _ _ _ _
 ·simp only [resolve,Qz,Deferred.ofValue,Sem.run_pure]
  simp [Act.eval]
 ·intro f' _
  exact trivial
 ·have:=jL (P:=E.P) h.1 (⟨vs++[.func (.yield w.heap.size) #[] #[]]++us⟩) (w.alloc (.loop jy))
  simpa [invoke] using this
 ·intro hc; cases hc
 ·have TL:Rel R2 (w.alloc (.loop jy)) (.yield s.G.length) (.func (.yield w.heap.size) #[] #[]):=.yield J8
  have zL:=(h.2 R2 (w.alloc (.loop jy)) _ h2.g ((((q1.mono st.ext).append (.one TL)).append (q2.mono st.ext))))
  refine CallsIn.mono (F:=Fence.wide.inRound b0) zL ?_
  intro e w3 he
  cases e with
  | panicked c=>exact he.elim
  | outgrown=>exact he.elim
  | returned c=>
   obtain ⟨r,G',R3,hQ,dh,Yx,M1⟩:=he
   obtain ⟨p1,p2⟩:=h2.oq Yx M1
   unfold QQ at hQ
   split at hQ
   ·rename_i busy pending ff sl nn pp pI bd dd done Fb
    obtain ⟨Yy,hQ⟩:=hQ
    have J9:nth R3.obj s.G.length=some (.bw w.heap.size):=M1.ext.bw J8
    obtain ⟨⟨r3,db,l1,l2,l3,_,_,_,_,_,_,_⟩,_⟩:=p1.g.obj _ _ _ Fb J9
    have Fc:r3.state≠.busy:=by rw [l2]; exact wZ Yy
    refine ⟨r3.pending,_,run_endLoop l1 Fc,?_⟩
    rw [l3]
    have key:∀ x:Obj,mr x→(∀ r,Obj.loop r3=.loop r→∃ r',x=.loop r'∧nj r r')→aQ E R3 (World.put w3 w.heap.size x) β ⟨s.ae,s.boxes,au G' s.G.length .dead,s.marks,s.ro,s.n⟩ { a with defers:=[]++a.defers }∧Step R w β s.boxes R3 (World.put w3 w.heap.size x) β s.boxes:=fun x hx Yz=>by
     obtain ⟨z1,z2⟩:=p1.setObj (x':=x) (go':=.dead) J9 l1 trivial hx Yz (show w.heap.size < _ by simp [World.put]; exact bj l1)
     exact ⟨⟨z1.g,z1.b,z1.t,z1.n,z1.d⟩,(st.trans p2).trans z2⟩
    obtain ⟨z1,z2⟩:=key (.loop { r3 with state:=.exhausted,pending:=pending }) trivial (fun r e=>⟨_,rfl,by cases e; exact ⟨rfl,rfl,rfl,rfl,rfl⟩⟩)
    cases pending with
    | none=>exact ⟨_,R3,β,hQ,z1,z2,rfl⟩
    | some c=>
     refine wpIn_mono (hQ R3 _ β _ (Fence.wide.inRound b0) z1 (by show bL R3 s.ro _; rw [aU]; exact ⟨b0,M1.ext.bw (e2.bw hb0),rfl⟩)) ?_
     rintro e Yd Mp ⟨AH,I7,Pb,JK,vW,oV,tF⟩
     exact ⟨AH,I7,Pb,JK,vW,z2.trans oV,tF⟩
   ·exact hQ.elim
def Ff (id:Nat) (Q:Bool→List GO→Prop):Exit→St→Prop:=fun e s=>match nth s.G id with
 | some (.loop _ _ fn sl n ps pI bd d _)=>match e with
  | .normal=>Q true (au s.G id (.loop false none fn sl n ps pI bd d false))
  | .ret=>Q false (au s.G id (.loop false (some .ret) fn sl n ps pI bd d true))
  | .exit i=>Q false (au s.G id (.loop false (some (.exit i)) fn sl n ps pI bd d true))
  | _=>False
 | _=>False
def A8 (E:Env) (id:Nat) (body:Code) (Q:Bool→List GO→Prop):Exit→St→Prop:=fun e s=>match e with
 | .normal=>match nth s.G id with
  | some (.loop false p fn sl n ps pI bd d false)=>eH E body (Ff id Q) (s.bn (au s.G id (.loop true p fn sl n ps pI bd d false)))
  | _=>False
 | _=>False
def xd:List Tmp→List AV→a8→a8
 | t :: ts,a :: l,r=>xd ts l (.put t (.v a) :: r)
 | _,_,r=>r
def St.round (id:Nat) (ae:a8) (n:Nat) (G:List GO):St:=⟨ae,[],G,[],some id,n⟩
theorem xe {R:af} {w:World} {β:Nat→Nat}:∀ {ts:List Tmp} {l:List AV} {cs:List Value} {r:a8} {tmps:Array Value},nl R w β r tmps→aC R w l cs→l.length=ts.length→(∀ t∈ts,t < tmps.size) →
  nl R w β (xd ts l r) ((ts.zip cs).foldl (fun tmps (t,a)=>tmps.setIfInBounds t a) tmps)
 | [],[],_,_,_,h,.nil,_,_=>h
 | t :: ts,a :: l,c :: cs,r,tmps,h,.cons hx hl,hlen,ht=>by
  have dx:t < tmps.size:=ht t (by simp)
  simp only [xd,List.zip_cons_cons,List.foldl_cons]
  refine xe ?_ hl (by simpa using hlen) (fun t' h'=>by simpa using ht t' (by simp [h']))
  have:=nl.put (a:={ tmps:=tmps,defers:=[] }) h (d:=t) (x:=.v a) (c:=c) dx hx
  simpa [Act.put] using this
 | [],_ :: _,_,_,_,_,_,hlen,_=>by simp at hlen
 | _ :: _,[],_,_,_,_,_,hlen,_=>by simp at hlen
theorem Fg (l:List (Tmp × Value)):∀ tmps:Array Value,(l.foldl (fun (tmps:Array Value) (x:Tmp × Value)=>tmps.setIfInBounds x.1 x.2) tmps).size=tmps.size:=by
 induction l with
 | nil=>intro _; rfl
 | cons x l ih=>intro tmps; rw [List.foldl_cons,ih]; simp
theorem kf.intro {E:Env} {id:Nat} {args:List AV} {G:List GO} {Q:Bool→List GO→Prop} {fn:FuncId} {ae:a8} {n:Nat} {ps:List Tmp} {assign body:Code} {d:Nat} {p:Option Code}
  (hG:nth G id=some (.loop false p fn ae n ps assign body d false)) (hl:args.length=ps.length) (IQ:∀ t∈ps,t < n)
  (h:eH E assign (A8 E id body Q) (St.round id (xd ps args ae) n G)):kf E id args G Q:=fun R w cs b hg hr hb=>by
 obtain ⟨⟨r,db,l1,l2,l3,l4,l5,l6,l7,l8,l9,l10⟩,l11⟩:=hg.obj id _ _ hG hb
 have hlen:=hr.length
 refine ⟨r,l1,by rw [l6]; simp; omega,?_⟩
 have YA:Step R w (fun _=>0) gN R w (fun _=>0) gN:=Step.refl _ _ _ _
 have YB:aQ E R w (fun _=>0) (St.round id (xd ps args ae) n G) { tmps:=(r.params.zip ⟨cs⟩).foldl (fun tmps (t,a)=>tmps.setIfInBounds t a) r.tmps,defers:=[] }:=by
  have U3:(r.params.zip ⟨cs⟩).foldl (fun (tmps:Array Value) (x:Tmp × Value)=>tmps.setIfInBounds x.1 x.2) r.tmps=(ps.zip cs).foldl (fun (tmps:Array Value) (x:Tmp × Value)=>tmps.setIfInBounds x.1 x.2) r.tmps:=by
   rw [← Array.foldl_toList]
   simp [l6]
  refine ⟨hg,⟨fun k cs hk=>?_,fun k k' c c' hk=>?_⟩,?_,?_,trivial⟩
  ·simp [St.round,cX] at hk
  ·simp [St.round,cX] at hk
  ·show nl _ _ _ _ _
   have:=xe (ts:=ps) (l:=args) (cs:=cs) l4 hr hl (fun t ht=>by rw [l5]; exact IQ t ht)
   rw [← U3] at this
   exact this
  ·show _=n
   have:=Fg (ps.zip cs) r.tmps
   rw [← U3] at this
   exact this.trans l5
 have Qo:∀ (k:Nat) (cs:List AV),cX (St.round id (xd ps args ae) n G).boxes k≠some cs:=fun k cs hk=>by simp [St.round,cX] at hk
 rw [l7,l8]
 refine roundIn_of_wpIn trivial (wpIn_mono (h R w (fun _=>0) _ (Fence.wide.inRound b) YB ⟨b,hb,rfl⟩) ?_)
 rintro e a1 w1 ⟨s1,R1,β1,hq,AP,st1,YC⟩
 unfold A8 at hq
 cases e with
 | normal=>
  simp only at hq
  split at hq
  ·rename_i p' Yq TF n' UY M0 TJ d' YD
   have QC:nth R1.obj id=some (.bw b):=st1.ext.bw hb
   obtain ⟨⟨r1,db1,m1,m2,m3,m4,m5,m6,m7,m8,m9,m10⟩,m11⟩:=AP.g.obj id _ _ YD QC
   refine ⟨_,run_beginRound m1 m2,?_⟩
   obtain ⟨z1,z2⟩:=AP.setObj (x':=.loop { r1 with state:=.busy }) (go':=.loop true p' Yq TF n' UY M0 TJ d' false) QC m1 trivial trivial (fun r e=>⟨_,rfl,by cases e; exact ⟨rfl,rfl,rfl,rfl,rfl⟩⟩)
    ⟨⟨{ r1 with state:=.busy },db1,gz _ _ _ (bj m1),rfl,m3,m4.mono (ms (x':=.loop { r1 with state:=.busy }) m1 trivial trivial (fun r e=>⟨_,rfl,by cases e; exact ⟨rfl,rfl,rfl,rfl,rfl⟩⟩)),m5,m6,m7,m8,m9,m10⟩,m11⟩
   refine wpIn_mono (hq R1 _ β1 a1 (Fence.wide.inRound b) z1 (by show bL R1 s1.ro _; rw [YC]; exact ⟨b,QC,rfl⟩)) ?_
   rintro e2 a2 w2 ⟨s2,R2,β2,me,vN,st2,A9⟩
   unfold Ff at me
   split at me
   ·rename_i bu2 p2 WQ YE n2 YF YG YH d2 dn2 UO
    have U4:=(st1.trans z2).trans st2
    have EQ:nth R2.obj id=some (.bw b):=U4.ext.bw hb
    obtain ⟨⟨r2,db2,o1,o2,o3,o4,o5,o6,o7,o8,o9,zM⟩,H8⟩:=vN.g.obj id _ _ UO EQ
    have fin:∀ (j:Option Code),AS E R w (fun b' G'=>G'=au s2.G id (.loop false j WQ YE n2 YF YG YH d2 (!j.isNone))∧b'=j.isNone) (.returned (.bool j.isNone)) (w2.putObj b (.loop { r2 with state:=if j.isNone then .ready else .done,pending:=j })):=fun j=>by
     obtain ⟨y1,y2⟩:=vN.setObj (x':=.loop { r2 with state:=if j.isNone then .ready else .done,pending:=j }) (go':=.loop false j WQ YE n2 YF YG YH d2 (!j.isNone)) EQ o1 trivial trivial (fun r e=>⟨_,rfl,by cases e; exact ⟨rfl,rfl,rfl,rfl,rfl⟩⟩)
      ⟨⟨{ r2 with state:=if j.isNone then .ready else .done,pending:=j },db2,gz _ _ _ (bj o1),by cases j <;> rfl,rfl,o4.mono (ms (x':=.loop { r2 with state:=if j.isNone then .ready else .done,pending:=j }) o1 trivial trivial (fun r e=>⟨_,rfl,by cases e; exact ⟨rfl,rfl,rfl,rfl,rfl⟩⟩)),o5,o6,o7,o8,o9,zM⟩,H8⟩
     exact ⟨_,_,R2,⟨rfl,rfl⟩,rfl,y1.g,v8 (U4.trans y2) Qo⟩
    have mk:∀ (j:Option Code),Q j.isNone (au s2.G id (.loop false j WQ YE n2 YF YG YH d2 (!j.isNone)))→∃ v w',(Instr.endRound b j).run E.P w2=.ok v w'∧AS E R w Q (.returned v) w':=fun j hQ=>by
     refine ⟨_,_,run_endRound j o1,?_⟩
     obtain ⟨r',G',R',⟨h1,h2⟩,h3⟩:=fin j
     subst h1; subst h2
     exact ⟨_,_,R',hQ,h3⟩
    cases e2 with
    | normal=>exact mk none me
    | ret=>exact mk (some .ret) me
    | exit i=>exact mk (some (.exit i)) me
    | _=>exact me.elim
   ·exact me.elim
  ·exact hq.elim
 | _=>exact hq.elim
end Go.Am
namespace Go.Am
open Go
section
variable {E:Env} {R R':af} {w w':World} {β β':Nat→Nat} {s s':St} {a a':Act}
def bz (E:Env) (g:FuncId) (args:List AV) (Q:AV→Prop):Prop:=∀ G,cJ E g args G (fun r G'=>G'=G∧Q r)
theorem bz.mono {g:FuncId} {args:List AV} {Q Q':AV→Prop} (h:bz E g args Q) (hq:∀ r,Q r→Q' r):bz E g args Q':=
 fun G=>(h G).mono fun r _ hh=>⟨hh.1,hq r hh.2⟩
theorem bz.of {g:FuncId} {args:List AV} {p:aj} {Q:p.T→Prop} (hc:aF 0 args=true) (hp:p.under 0=true)
  (h:cJ E g args [] (fun r _=>∃ y,p.dec r=some y∧Q y)):bz E g args (fun r=>∃ y,r=p.enc y∧Q y):=fun G=>by
 refine ⟨h.1,fun R w cs hg hl=>?_⟩
 let R0:af:=⟨R.I,[]⟩
 have m0:Mv R R0 0:=⟨fun _ _ h=>h,fun _ _ h=>absurd h (Nat.not_lt_zero _)⟩
 have O3:dN E R0 w []:=⟨rfl,fun id go ro h1 _=>by simp [nth] at h1,fun i j ri rj b h1=>by simp [R0,nth] at h1,hg.wf,fun g cs r8=>(hg.ck g cs r8).move m0 (cm _ (E.vg g cs r8)),hg.lo⟩
 have r7:aC R0 w args cs:=hl.move m0 hc
 refine (h.2 R0 w cs O3 r7).mono fun e w' he=>?_
 cases e with
 | panicked c=>exact he.elim
 | outgrown=>exact he.elim
 | returned c=>
  obtain ⟨r,G',R1,⟨y,hy,hQ⟩,dh,M2,st⟩:=he
  have iX:∀ b,¬ Own R0 (fun _=>0) gN b:=fun b ho=>by
   obtain ⟨id,ro,h1,_⟩:=eC ho
   simp [R0,nth] at h1
  let R2:af:=⟨R1.I,R.obj⟩
  have e:Ext R w R2 w':=⟨st.ext.I,st.ext.cell,fun id ro h=>⟨ro,h,bQ.refl ro⟩,st.ext.lp⟩
  have bY:∀ b,b < w.heap.size→w'.heap[b]?=w.heap[b]?:=fun b hb=>st.bY b hb (iX b)
  have im:∀ b o,b < w.heap.size→R1.I b o→R.I b o:=fun b o hb hi=>st.im b o hi hb (iX b)
  have hd:=p.px hy
  have m:Mv R1 R2 0:=⟨fun _ _ h=>h,fun _ _ h=>absurd h (Nat.not_lt_zero _)⟩
  refine ⟨p.enc y,G,R2,⟨rfl,y,rfl,hQ⟩,Rel.move m (p.dj y hp) (hd.gq _ _ _ dh),⟨hg.len,fun id go ro h1 h2=>?_,hg.inj,M2.wf,fun g cs r8=>(hg.ck g cs r8).mono e,M2.lo⟩,⟨e,st.os,st.tape,st.output,st.size,fun b hb _=>bY b hb,fun b _ ho=>?_,fun b o hi hb _=>im b o hb hi⟩⟩
  ·refine (hg.obj id go ro h1 h2).mono e (fun b hb=>bY b ?_) (fun b o hb hi=>im b o ?_ hi)
   ·exact (hg.obj id go ro h1 h2).lt hb
   ·exact (hg.obj id go ro h1 h2).lt hb
  ·exact ho
theorem eH.YI {c:Code} {Q Q':Exit→St→Prop} (h:eH E c (fun e s'=>aB s s'∧Q' e s') s)
  (hq:∀ e s',Q' e s'→∃ (t:bI) (v:t.ps.T),t.dec s s'=some v∧Q e (t.st s v)):eH E c Q s:=fun R w β a F hr hf=>by
 refine wpIn_mono (h R w β a F hr hf) ?_
 rintro e a' w' ⟨s',R',β',⟨hx,UH⟩,iE,gy,aU⟩
 obtain ⟨t,v,hd,hQ⟩:=hq e s' UH
 obtain ⟨h1,h2⟩:=bI.BP hx hr iE gy hd
 exact ⟨_,_,β',hQ,h1,h2,rfl⟩
theorem eH.fC {c:Code} {Q:Exit→St→Prop} {l:List (Loc × Nat × TypeId)} (hs:Am.fC l s=some s') (h:eH E c Q s'):eH E c Q s:=fun R w β a F hr hf=>by
 obtain ⟨R1,k1,k2,k3,_⟩:=iI hr hs
 refine wpIn_mono (h R1 w β a F k1 (by rw [k3]; exact hf.mono k2.ext)) ?_
 rintro e a' w' ⟨s2,R2,β2,hq,vN,st2,A9⟩
 exact ⟨s2,R2,β2,hq,vN,k2.trans st2,A9.trans k3⟩
end
end Go.Am
namespace Go.Am
open Go
def Ka (s:St) (dst:Option Tmp) (x:SV):Option (Bool × St × St):=match x with
 | .v (.ptr id 0)=>match nth s.G id with
  | some (.gf l pos)=>some (Nat.blt pos l.length,(s.bn (au s.G id (.gf l (pos+(bJ l pos).2)))).put dst (.v (.bF [.bool true,.int .i64 pos,.int .i32 (bJ l pos).1])),s.put dst (.v (.bF [.bool false])))
  | _=>none
 | _=>none
theorem Fh {s:St} {dst:Option Tmp} {x:SV} {b:Bool} {s1 s2:St} (h:Ka s dst x=some (b,s1,s2)):kQ s dst x=some (bif b then s1 else s2):=by
 unfold Ka at h
 split at h
 ·split at h
  ·rename_i l pos hg
   cases h
   simp only [kQ,hg]
   cases Nat.blt pos l.length <;> rfl
  ·cases h
 ·cases h
theorem Gy {e:EK} {k:AV}:∀ {es:List (AV × AV)},cH e k es=true→iz e k es=some (eU e k es)
 | [],_=>rfl
 | (k',v) :: l,h=>by
  simp only [cH,Bool.and_eq_true] at h
  obtain ⟨b,hb⟩:=Option.isSome_iff_exists.1 h.1
  simp only [iz,eU,uL,hb]
  cases b
  ·simp only [cond_false]; exact Gy h.2
  ·rfl
theorem Kb {e:EK} {k v:AV}:∀ {es:List (AV × AV)},cH e k es=true→sg e k v es=some (bi e k v es)
 | [],_=>rfl
 | (k',v') :: l,h=>by
  simp only [cH,Bool.and_eq_true] at h
  obtain ⟨b,hb⟩:=Option.isSome_iff_exists.1 h.1
  simp only [sg,bi,uL,hb]
  cases b
  ·simp only [cond_false,Kb h.2]
  ·rfl
mutual
def aj.flat:aj→Bool
 | .int _=>true
 | .bool=>true
 | .str=>true
 | .agg ps=>ps.flat
 | .aM _ _ p=>p.flat
 | _=>false
def aK.flat:aK→Bool
 | .nil=>true
 | .cons p ps=>p.flat&&ps.flat
end
theorem CX {α:Type} {f:AV→Bool} {d:AV→α} {g:α→AV} (h:∀ a,f a=true→g (d a)=a):∀ {es:List AV},allFit f es=true→(es.map d).map g=es
 | [],_=>rfl
 | a :: l,hl=>by
  simp only [allFit,Bool.and_eq_true] at hl
  rw [List.map_cons,List.map_cons,h a hl.1,CX h hl.2]
mutual
theorem aj.jf:∀ {p:aj},p.flat=true→∀ {a:AV},p.fits a=true→p.enc (p.bh a)=a
 | .int k,_,a,h=>by
  cases a <;> first | (cases h; done) | skip
  have hk:Tw _ _=true:=h
  rw [D0 hk]; rfl
 | .bool,_,a,h=>by cases a <;> first | (cases h; done) | rfl
 | .str,_,a,h=>by cases a <;> first | (cases h; done) | rfl
 | .agg ps,hp,a,h=>by
  cases a <;> first | (cases h; done) | skip
  exact congrArg AV.agg (aK.jf (ps:=ps) hp h)
 | .bF _,hp,_,_=>by cases hp
 | .list _ _,hp,_,_=>by cases hp
 | .own _ _ _,hp,_,_=>by cases hp
 | .aM id sz p,hp,a,h=>by
  cases a <;> first | (cases h; done) | skip
  rename_i k a6 es
  cases k <;> first | (cases h; done) | skip
  rename_i gZ j
  simp only [aj.fits,Bool.and_eq_true] at h
  have e1:=Nat.eq_of_beq_eq_true h.1.1
  have e2:=Nat.eq_of_beq_eq_true h.1.2
  subst e1 e2
  have hp:p.flat=true:=hp
  show AV.list (.aM id j) sz ((es.map p.bh).map p.enc)=_
  rw [CX (fun a ha=>aj.jf hp ha) h.2]
 | .mN _,hp,_,_=>by cases hp
 | .two _ _,hp,_,_=>by cases hp
theorem aK.jf:∀ {ps:aK},ps.flat=true→∀ {l:List AV},ps.fits l=true→ps.enc (ps.bh l)=l
 | .nil,_,l,h=>by
  cases l with
  | nil=>rfl
  | cons _ _=>cases h
 | .cons p .nil,hp,l,h=>by
  simp only [aK.flat,Bool.and_eq_true] at hp
  cases l with
  | nil=>cases h
  | cons a l=>
   simp only [aK.fits,Bool.and_eq_true] at h
   cases l with
   | nil=>exact congrArg (fun x=>[x]) (aj.jf hp.1 h.1)
   | cons _ _=>cases h.2
 | .cons p (.cons q ps),hp,l,h=>by
  rw [aK.flat,Bool.and_eq_true] at hp
  cases l with
  | nil=>cases h
  | cons a l=>
   rw [aK.fits,Bool.and_eq_true] at h
   have h1:=aj.jf hp.1 h.1
   have h2:=aK.jf (ps:=.cons q ps) hp.2 h.2
   show p.enc (p.bh a) :: (aK.cons q ps).enc ((aK.cons q ps).bh l)=a :: l
   rw [h1,h2]
end
def uT (E:Env) (s:St) (t:TypeId) (m k:SV):Option (Bool × AV × Bool):=match I2 E s.G t,E.ti t,mapOf s m,k with
 | some p,some i,some es,.v k=>match i.k with
  | .map kt _ (some z)=>match E.ti kt with
   | some j=>if j.ek.plain&&hU j.ek k&&p.flat then
     some (cH j.ek k es&&p.fits (bu j.ek k (BW E s.G t z) es),p.enc (p.bh (bu j.ek k (BW E s.G t z) es)),(eU j.ek k es).isSome)
    else none
   | none=>none
  | _=>none
 | _,_,_,_=>none
theorem rb {E:Env} {s:St} {t:TypeId} {m k:SV} {v:AV} {b:Bool} (h:uT E s t m k=some (true,v,b)):kP E s t m k=some (v,b):=by
 unfold uT at h
 split at h
 ·rename_i p i es k h1 h2 h3
  split at h
  ·rename_i kt et z hk
   split at h
   ·rename_i j hj
    split at h
    ·rename_i hc
     simp only [Bool.and_eq_true] at hc
     injection h with h
     injection h with h4 h
     injection h with h5 h6
     rw [Bool.and_eq_true] at h4
     rw [aj.jf hc.2 h4.2] at h5
     have e:iz j.ek k es=some (eU j.ek k es):=Gy h4.1
     have mO:(j.ek.plain&&hU j.ek k)=true:=by rw [hc.1.1,hc.1.2]; rfl
     have e0:iT E s t m (.v k)=some ((eU j.ek k es).getD z,(eU j.ek k es).isSome):=by
      simp only [iT,h2,h3,hk,hj,mO,if_true,e]
      cases eU j.ek k es <;> rfl
     unfold kP
     rw [e0]
     unfold bu at h5
     cases hg:eU j.ek k es with
     | none=>
      rw [hg] at h5 h6
      subst h5 h6
      rfl
     | some v'=>
      rw [hg] at h5 h6
      subst h5 h6
      rfl
    ·cases h
   ·cases h
  ·cases h
 ·cases h
def uU (E:Env) (s:St) (t:TypeId) (m k x:SV):Option (Bool × St):=match E.ti t,m,k,x with
 | some i,.v (.map id),.v k,.v x=>match i.k,nth s.G id with
  | .map kt _ _,some (.map es)=>match E.ti kt with
   | some j=>if j.ek.plain&&hU j.ek k then some (cH j.ek k es,s.bn (au s.G id (.map (bi j.ek k x es)))) else none
   | none=>none
  | _,_=>none
 | _,_,_,_=>none
theorem rk {E:Env} {s s':St} {t:TypeId} {m k x:SV} (h:uU E s t m k x=some (true,s')):eN E s t m k x=some s':=by
 unfold uU at h
 split at h
 ·rename_i i id k x h1
  split at h
  ·rename_i kt _ _ es hk hg
   split at h
   ·rename_i j hj
    split at h
    ·rename_i hc
     injection h with h
     injection h with h4 h5
     simp only [eN,h1,hk,hg,hj,hc,if_true,Kb h4,h5]
    ·cases h
   ·cases h
  ·cases h
 ·cases h
def Kc (E:Env) (s:St) (dst:Option Tmp) (l:List AV) (tys:List TypeId):Option (Bool × St):=match l,tys with
 | [.iy id off sz len _,.str bs],t :: _=>match E.ti t,nth s.G id with
  | some i,some (.row cs el)=>match i.k with
   | .sl _ esz _ _ _=>if Nat.beq sz esz&&Nat.beq esz 1 then
     some (Nat.ble (off+(bs.take (Nat.min bs.length len)).length) cs.length,
      (s.bn (au s.G id (.row (aY cs off ((bs.take (Nat.min bs.length len)).map qn)) el))).put dst (.v (.int .i64 (Nat.min bs.length len))))
    else none
   | _=>none
  | _,_=>none
 | [.iy id off sz len _,.list _ a6 es],t :: _=>match E.ti t,nth s.G id with
  | some i,some (.row cs el)=>match i.k with
   | .sl _ esz _ _ _=>if Nat.beq sz esz&&Nat.beq a6 esz then
     some (Nat.ble (off+(ar (es.take (Nat.min es.length len))).length) cs.length,
      (s.bn (au s.G id (.row (aY cs off (ar (es.take (Nat.min es.length len)))) el))).put dst (.v (.int .i64 (Nat.min es.length len))))
    else none
   | _=>none
  | _,_=>none
 | [.cT id f off sz len,.list _ a6 xs],t :: _=>match E.ti t,nth s.G id with
  | some i,some (.cK es WR el)=>match i.k with
   | .sl _ esz _ _ _=>if Nat.beq sz esz&&Nat.beq WR sz&&Nat.beq a6 esz then
     some (decide (f=es.length)&&decide (off+Nat.min xs.length len≤es.length),
      (s.bn (au s.G id (.cK (aY es off (xs.take (Nat.min xs.length len))) WR el))).put dst (.v (.int .i64 (Nat.min xs.length len))))
    else none
   | _=>none
  | _,_=>none
 | _,_=>none
theorem Fi {E:Env} {s s':St} {dst:Option Tmp} {l:List AV} {tys:List TypeId} (h:Kc E s dst l tys=some (true,s')):bS E s dst .copy l tys=some (true,s'):=by
 unfold Kc at h
 split at h
 ·rename_i id off sz len cap bs t ts
  split at h
  ·rename_i i cs el hi aX
   split at h
   ·rename_i a1 esz a2 a3 a4 hk
    split at h
    ·rename_i hc
     rw [Bool.and_eq_true] at hc
     injection h with h
     injection h with h1 h2
     have jZ:(Nat.beq esz 1&&Nat.ble (off+(bs.take (Nat.min bs.length len)).length) cs.length)=true:=by rw [hc.2,h1]; rfl
     simp only [bS,hi,hk,qo,aX,hc.1,if_true,jZ,h2]
    ·cases h
   ·cases h
  ·cases h
 ·rename_i id off sz len cap k a6 es t ts
  split at h
  ·rename_i i cs el hi aX
   split at h
   ·rename_i a1 esz a2 a3 a4 hk
    split at h
    ·rename_i hc
     rw [Bool.and_eq_true] at hc
     injection h with h
     injection h with h1 h2
     have e2:(Nat.beq a6 esz || es.isEmpty)=true:=by rw [hc.2]; rfl
     simp only [bS,hi,hk,qo,aX,hc.1,if_true,e2,h1,h2]
    ·cases h
   ·cases h
  ·cases h
 ·rename_i id f off sz len k a6 xs t ts
  split at h
  ·rename_i i es WR el hi aX
   split at h
   ·rename_i a1 esz a2 a3 a4 hk
    split at h
    ·rename_i hc
     rw [Bool.and_eq_true] at hc
     injection h with h
     injection h with h1 h2
     rw [Bool.and_eq_true,decide_eq_true_eq,decide_eq_true_eq] at h1
     obtain ⟨rfl,h1⟩:=h1
     have e2:(Nat.beq sz esz&&Nat.beq WR sz&&(Nat.beq a6 esz || xs.isEmpty)&&Nat.ble es.length es.length&&Nat.ble es.length es.length&&Nat.ble (off+Nat.min xs.length len) es.length)=true:=by
      rw [hc.1,hc.2]
      simp only [Bool.true_or,Bool.true_and,Bool.and_eq_true]
      exact ⟨⟨Nat.ble_eq_true_of_le (Nat.le_refl _),Nat.ble_eq_true_of_le (Nat.le_refl _)⟩,Nat.ble_eq_true_of_le h1⟩
     simp only [bS,hi,hk,qo,aX,e2,if_true,h2]
    ·cases h
   ·cases h
  ·cases h
 ·cases h
def uV (s:St) (dst:Option Tmp) (elem esz a7:Nat) (k:LK) (sz:Nat) (es ys:List AV):Option (Bool × St × Bool × St):=
 match k with
 | .nil=>some (ys.isEmpty,s.put dst (.v (.list .nil sz es)),decide ((es.length+ys.length) * a7≤140737488355328),
   (s.bn (s.G++[.tok (es.length+ys.length) esz elem])).put dst (.v (.list (.own s.G.length) esz (es++ys))))
 | .full=>if Nat.beq sz esz then some (ys.isEmpty,s.put dst (.v (.list .full sz es)),decide ((es.length+ys.length) * a7≤140737488355328),
   (s.bn (s.G++[.tok (es.length+ys.length) esz elem])).put dst (.v (.list (.own s.G.length) esz (es++ys)))) else none
 | .own id=>match nth s.G id with
  | some (.tok f a6 e')=>if Nat.beq a6 esz&&Nat.beq e' elem&&Nat.beq sz esz then
    some (false,s,decide (f=es.length)&&decide ((es.length+ys.length) * a7≤140737488355328),
     (s.bn (I3 s.G id ys.length f esz elem)).put dst (.v (.list (.own id) esz (es++ys)))) else none
  | _=>none
 | .aM id j=>match nth s.G id with
  | some (.aM fs a6 e')=>if Nat.beq a6 esz&&Nat.beq e' elem&&Nat.beq sz esz then
    some (ys.isEmpty,s.put dst (.v (.list (.aM id j) sz es)),Mm fs j es.length&&decide ((es.length+ys.length) * a7≤140737488355328),
     (s.bn (au s.G id (.aM (Hi fs j (es.length+ys.length)) esz elem))).put dst (.v (.list (.aM id j) esz (es++ys)))) else none
  | _=>none
 | .gX=>none
def Ba (s:St) (dst:Option Tmp) (elem esz a7 id f off sz len:Nat) (ys:List AV):Option (Bool × St × Bool × St):=match nth s.G id with
 | some (.cK es a6 e')=>if Nat.beq a6 esz&&Nat.beq e' elem&&Nat.beq sz esz then
   some (false,s,decide (f=es.length)&&decide (off=0)&&decide (len=f)&&decide ((es.length+ys.length) * a7≤140737488355328),
    (s.bn (au s.G id (.cK (es++ys) esz elem))).put dst (.v (.cT id (es.length+ys.length) 0 esz (es.length+ys.length)))) else none
 | _=>none
def Bb (E:Env) (s:St) (dst:Option Tmp) (l:List AV) (tys:List TypeId):Option (Bool × St × Bool × St):=match l,tys with
 | [.list k sz es,.list _ a6 ys],[t,u]=>match E.ti t with
  | some i=>match i.k with
   | .sl elem esz _ a7 (some z)=>
    if Nat.beq a6 esz&&Nat.beq t u&&Nat.ble 1 esz&&Nat.ble 1 a7&&Nat.beq z.cells.length esz&&z.aN then
     uV s dst elem esz a7 k sz es ys
    else none
   | _=>none
  | none=>none
 | [.cT id f off sz len,.list _ a6 ys],[t,u]=>match E.ti t with
  | some i=>match i.k with
   | .sl elem esz _ a7 (some z)=>
    if Nat.beq a6 esz&&Nat.beq t u&&Nat.ble 1 esz&&Nat.ble 1 a7&&Nat.beq z.cells.length esz&&z.aN then Ba s dst elem esz a7 id f off sz len ys else none
   | _=>none
  | none=>none
 | [.list k sz es,.str bs],[t,u]=>match E.ti t,E.ti u with
  | some i,some j=>match i.k,j.k with
   | .sl elem esz _ a7 (some z),.str=>
    if Nat.beq esz 1&&Nat.ble 1 a7&&Nat.beq z.cells.length esz&&z.aN then uV s dst elem esz a7 k sz es (bs.map qn) else none
   | _,_=>none
  | _,_=>none
 | _,_=>none
theorem rn {s s1 s2:St} {dst:Option Tmp} {elem esz a7:Nat} {k:LK} {sz:Nat} {es ys:List AV} {b c:Bool} (h:uV s dst elem esz a7 k sz es ys=some (b,s1,c,s2)) (hc:b=false→c=true) :
  ∃ v G',dH s.G elem esz a7 (.list k sz es) ys=some (true,v,G')∧(s.bn G').put dst (.v v)=bif b then s1 else s2:=by
 unfold uV at h
 cases k with
 | nil=>
  cases h
  cases ys with
  | nil=>exact ⟨_,_,rfl,rfl⟩
  | cons y ys=>
   have hc:=hc rfl
   exact ⟨_,_,by simp only [dH,hc],rfl⟩
 | full=>
  simp only at h
  cases hs:Nat.beq sz esz with
  | false=>rw [hs] at h; cases h
  | true=>
   rw [hs] at h
   cases h
   cases ys with
   | nil=>exact ⟨_,_,rfl,rfl⟩
   | cons y ys=>
    have hc:=hc rfl
    exact ⟨_,_,by simp only [dH,hs,if_true,hc],rfl⟩
 | own id=>
  simp only at h
  split at h
  ·rename_i f a6 e' hg
   split at h
   ·rename_i bH
    cases h
    have hc:=hc rfl
    cases ys with
    | nil=>
     simp only [Bool.and_eq_true] at bH
     have e1:=Nat.eq_of_beq_eq_true bH.1.1
     have e2:=Nat.eq_of_beq_eq_true bH.1.2
     have e3:=Nat.eq_of_beq_eq_true bH.2
     subst e1; subst e2; subst e3
     refine ⟨_,_,rfl,?_⟩
     simp only [cond_false,I3,List.length_nil,Nat.add_zero,lJ hg,List.append_nil]
    | cons y ys=>exact ⟨_,_,by simp only [dH,hg,bH,if_true,hc],rfl⟩
   ·cases h
  ·cases h
 | aM id j=>
  simp only at h
  split at h
  ·rename_i fs a6 e' hg
   split at h
   ·rename_i bH
    cases h
    cases ys with
    | nil=>exact ⟨_,_,rfl,rfl⟩
    | cons y ys=>
     have hc:=hc rfl
     exact ⟨_,_,by simp only [dH,hg,bH,if_true,hc],rfl⟩
   ·cases h
  ·cases h
 | gX=>cases h
theorem Bc {s s1 s2:St} {dst:Option Tmp} {elem esz a7 id f off sz len:Nat} {ys:List AV} {b c:Bool} (h:Ba s dst elem esz a7 id f off sz len ys=some (b,s1,c,s2)) (hc:b=false→c=true) :
  ∃ v G',dH s.G elem esz a7 (.cT id f off sz len) ys=some (true,v,G')∧(s.bn G').put dst (.v v)=bif b then s1 else s2:=by
 unfold Ba at h
 split at h
 ·rename_i es a6 e' hg
  split at h
  ·rename_i bH
   cases h
   have hc:=hc rfl
   cases ys with
   | nil=>
    simp only [Bool.and_eq_true,decide_eq_true_eq] at hc bH
    have e1:=Nat.eq_of_beq_eq_true bH.1.1
    have e2:=Nat.eq_of_beq_eq_true bH.1.2
    have e3:=Nat.eq_of_beq_eq_true bH.2
    obtain ⟨⟨⟨h1,h2⟩,h3⟩,_⟩:=hc
    subst e1; subst e2; subst e3; subst h1; subst h2; subst h3
    refine ⟨_,_,rfl,?_⟩
    simp only [cond_false,List.length_nil,Nat.add_zero,lJ hg,List.append_nil]
   | cons y ys=>exact ⟨_,_,by simp only [dH,hg,bH,if_true,hc],rfl⟩
  ·cases h
 ·cases h
theorem Bd {E:Env} {s s1 s2:St} {dst:Option Tmp} {l:List AV} {tys:List TypeId} {b c:Bool} (h:Bb E s dst l tys=some (b,s1,c,s2)) (DE:b=false→c=true):bS E s dst .append l tys=some (true,bif b then s1 else s2):=by
 unfold Bb at h
 split at h
 ·rename_i k sz es k' a6 ys t u
  split at h
  ·rename_i i hi
   split at h
   ·rename_i elem esz a1 a7 z hk
    split at h
    ·rename_i hc
     have mO:((Nat.beq a6 esz || ys.isEmpty)&&Nat.beq t u&&Nat.ble 1 esz&&Nat.ble 1 a7&&Nat.beq z.cells.length esz&&z.aN)=true:=by
      simp only [Bool.and_eq_true] at hc ⊢
      obtain ⟨⟨⟨⟨⟨c1,c2⟩,c3⟩,c4⟩,c5⟩,c6⟩:=hc
      exact ⟨⟨⟨⟨⟨by rw [c1]; rfl,c2⟩,c3⟩,c4⟩,c5⟩,c6⟩
     obtain ⟨v,G',h1,h2⟩:=rn h DE
     simp only [bS,hi,hk,mO,if_true,h1,h2]
    ·cases h
   ·cases h
  ·cases h
 ·rename_i id f off sz len k' a6 ys t u
  split at h
  ·rename_i i hi
   split at h
   ·rename_i elem esz a1 a7 z hk
    split at h
    ·rename_i hc
     have mO:((Nat.beq a6 esz || ys.isEmpty)&&Nat.beq t u&&Nat.ble 1 esz&&Nat.ble 1 a7&&Nat.beq z.cells.length esz&&z.aN)=true:=by
      simp only [Bool.and_eq_true] at hc ⊢
      obtain ⟨⟨⟨⟨⟨c1,c2⟩,c3⟩,c4⟩,c5⟩,c6⟩:=hc
      exact ⟨⟨⟨⟨⟨by rw [c1]; rfl,c2⟩,c3⟩,c4⟩,c5⟩,c6⟩
     obtain ⟨v,G',h1,h2⟩:=Bc h DE
     simp only [bS,hi,hk,mO,if_true,h1,h2]
    ·cases h
   ·cases h
  ·cases h
 ·rename_i k sz es bs t u
  split at h
  ·rename_i i j hi hj
   split at h
   ·rename_i elem esz a1 a7 z hk TB
    split at h
    ·rename_i hc
     obtain ⟨v,G',h1,h2⟩:=rn h DE
     simp only [bS,hi,hj,hk,TB,hc,if_true,h1,h2]
    ·cases h
   ·cases h
  ·cases h
 ·cases h
end Go.Am
namespace Go.Am
open Go
def QR (E:Env) (cut wk:Bool) (t:TypeId) (r:AV) (G:List GO):Option (Bool × AV × List GO):=match r with
 | .cT id f 0 sz len=>match nth G id,E.ti t with
  | some (.cK es a6 _),some i=>match i.k with
   | .sl _ esz _ _ _=>if Nat.beq esz sz&&Nat.beq a6 sz then
     bif cut then some (decide (f=es.length)&&decide (len≤es.length)&&ay (ze wk es),.list .gX sz (ze wk (es.take len)),au G id .dead)
     else some (decide (f=es.length)&&decide (len=es.length)&&ay (ze wk es),.list .gX sz (ze wk es),au G id .dead)
    else none
   | _=>none
  | _,_=>none
 | .iy id 0 sz len _=>match nth G id,E.ti t,E.Ml t with
  | some (.row cs _),some i,some p=>match i.k with
   | .sl _ esz agg _ _=>if Nat.beq esz sz&&Nat.ble 1 sz&&(agg || Nat.beq sz 1)&&p.under 0 then
     some (Nat.beq cs.length (len * sz)&&allFit (fun e=>p.fits e&&e.aN&&(agg || e.one)) (gG agg sz len cs),.list .gX sz ((gG agg sz len cs).map fun e=>p.enc (p.bh e)),au G id .dead)
    else none
   | _=>none
  | _,_,_=>none
 | .agg cs=>match lH wk cs G with
  | (c,dJ,G')=>some (c,.agg dJ,G')
 | .ptr id 0=>match nth G id with
  | some (.row cs _)=>some (ay cs,.ep cs,au G id .dead)
  | _=>none
 | _=>none
def xf (E:Env) (cut wk:Bool):List TypeId→List AV→List GO→Bool × List AV × List GO
 | t :: ts,r :: rs,G=>match QR E cut wk t r G with
  | some (c,r',G')=>match xf E cut wk ts rs G' with
   | (c',Kd,Po)=>(c&&c',r' :: Kd,Po)
  | none=>match xf E cut wk ts rs G with
   | (c',Kd,Po)=>(c',r :: Kd,Po)
 | _,rs,G=>(true,rs,G)
def QS {X:Type} (E:Env) (cut wk:Bool) (ts:List TypeId) (K:AV→List GO→Option X) (r:AV) (G:List GO):Option X:=match r with
 | .bF rs=>match xf E cut wk ts rs G with
  | (c,Kd,G')=>bif c then K (.bF Kd) G' else none
 | r=>match xf E cut wk ts [r] G with
  | (c,[r'],G')=>bif c then K r' G' else none
  | _=>none
section
variable {E:Env} {R:af} {w:World}
theorem xg {R:af} {b:Nat} (hI:∀ o,R.I b o):∀ {cs:List AV} {vs:List Value} {o:Nat},aC R w cs vs→(∀ v∈vs,v.oneCell'=true)→(∀ (j:Nat) (v:Value),vs[j]?=some v→w.cell? ⟨b,o+j,none⟩=some v)→dZ R w b o cs
 | [],_,o,_,_,_=>.nil
 | a :: cs,_,o,.cons h t,h1,hc=>.cons (hc 0 _ rfl) (h1 _ (by simp)) (hI o) h (xg hI t (fun v hv=>h1 v (by simp [hv])) fun j v hj=>by
   have:=hc (j+1) v (by simpa using hj)
   rwa [show o+(j+1)=o+1+j by omega] at this)
theorem xh {R:af} {b:Nat} {p:aj} {agg:Bool} {sz:Nat} (hI:∀ o,R.I b o) (hp:p.under 0=true) (dx:(agg || Nat.beq sz 1)=true) (YJ:1≤sz):∀ (n:Nat) {cs:List AV} {vs:List Value} {o:Nat},aC R w cs vs→(∀ v∈vs,v.oneCell'=true)→cs.length=n * sz →
  (∀ (j:Nat) (v:Value),vs[j]?=some v→w.cell? ⟨b,o+j,none⟩=some v)→allFit (fun e=>p.fits e&&e.aN&&(agg || e.one)) (gG agg sz n cs)=true→fM R w b o sz ((gG agg sz n cs).map fun e=>p.enc (p.bh e))
 | 0,_,_,_,_,_,_,_,_=>.nil
 | n+1,cs,vs,o,h,h1,hl,hc,hf=>by
  simp only [gG,allFit,Bool.and_eq_true] at hf
  obtain ⟨⟨⟨uk,Wx⟩,hf4⟩,hf3⟩:=hf
  have hlen:=h.length
  have hle:sz≤cs.length:=by rw [hl,Nat.succ_mul]; omega
  have dk:=p.cD uk
  have lq:(Ub agg (cs.take sz)).cells=cs.take sz:=by
   cases agg with
   | true=>rfl
   | false=>
    have DB:sz=1:=by simpa using dx
    subst DB
    match cs,hle with
    | a :: cs,_=>
     show AV.cells a=[a]
     have ho:a.one=true:=by simpa [Ub,dC] using hf4
     cases a <;> first | rfl | simp [AV.one] at ho
  have hw:=dk.cells Wx
  rw [lq] at hw
  have hA:dZ R w b o (cs.take sz):=xg hI (h.take sz) (fun v hv=>h1 v (List.mem_of_mem_take hv)) fun j v hj=>hc j v (by
   rw [List.getElem?_take] at hj
   split at hj
   ·exact hj
   ·cases hj)
  refine .cons (by rw [← hw.length,List.length_take,Nat.min_eq_left hle]) (by rw [dk.bF]; exact Wx) (lz (p.dj _ hp)) (hw.Jb hA) ?_
  exact xh hI hp dx YJ n (h.drop sz) (fun v hv=>h1 v (List.mem_of_mem_drop hv)) (by rw [List.length_drop,hl,Nat.succ_mul]; omega) (fun j v hj=>by
   rw [List.getElem?_drop] at hj
   have:=hc _ _ hj
   rwa [show o+(sz+j)=o+sz+j by omega] at this) hf3
theorem M3 {cut wk:Bool} {t:TypeId} {r r':AV} {G G':List GO} {c:Value} (hg:dN E R w G) (hr:Rel R w r c) (h:QR E cut wk t r G=some (true,r',G')) :
  ∃ R',dN E R' w G'∧Rel R' w r' c∧Ext R w R' w∧R'.obj=R.obj∧∀ b o,R'.I b o→R.I b o∨Live R b:=by
 unfold QR at h
 split at h
 ·rename_i id f sz len
  obtain ⟨ro,aU⟩:∃ ro,nth R.obj id=some ro:=by
   cases hr with
   | gT q _=>exact ⟨_,q⟩
   | cT q _ _=>exact ⟨_,q⟩
  split at h
  ·rename_i es a6 el i aX hi
   split at h
   ·split at h
    ·rename_i hc
     rw [Bool.and_eq_true] at hc
     have q1:=Nat.eq_of_beq_eq_true hc.2
     subst q1
     cases cut with
     | true=>
      simp only [cond_true] at h
      injection h with h; injection h with h1 h; injection h with h2 h3
      subst h2 h3
      rw [Bool.and_eq_true,Bool.and_eq_true,decide_eq_true_eq,decide_eq_true_eq] at h1
      obtain ⟨h1,gi⟩:=h1
      obtain ⟨R',r1,r2,r3,r4,r5⟩:=ke (wk:=wk) hg aX h1.1 h1.2 gi aU
      exact ⟨R',r1,r5 c hr,r2,r3,fun b o hi=>(r4 b o hi).imp_right fun hb=>⟨id,ro,aU,hb⟩⟩
     | false=>
      simp only [cond_false] at h
      injection h with h; injection h with h1 h; injection h with h2 h3
      subst h2 h3
      rw [Bool.and_eq_true,Bool.and_eq_true,decide_eq_true_eq,decide_eq_true_eq] at h1
      obtain ⟨h1,gi⟩:=h1
      obtain ⟨R',r1,r2,r3,r4,r5⟩:=ke (wk:=wk) hg aX h1.1 (Nat.le_of_eq h1.2) gi aU
      have r6:=r5 c hr
      rw [h1.2,List.take_length] at r6
      exact ⟨R',r1,r6,r2,r3,fun b o hi=>(r4 b o hi).imp_right fun hb=>⟨id,ro,aU,hb⟩⟩
    ·cases h
   ·cases h
  ·cases h
 ·rename_i id sz len cap
  split at h
  ·rename_i cs i p aX hi hp
   split at h
   ·rename_i el esz agg eb z hk
    split at h
    ·rename_i hc
     simp only [Bool.and_eq_true] at hc
     injection h with h
     injection h with h1 h
     injection h with h2 h3
     subst h2 h3
     rw [Bool.and_eq_true] at h1
     cases hr with
     | @iy _ _ _ _ _ b hb eh=>
     obtain ⟨vs,k1,k2,k3,k4⟩:=hg.obj id _ _ aX hb
     have B7:Live R b:=⟨id,_,hb,rfl⟩
     have e:=qN R w b
     have bK:=bj k1
     refine ⟨R.all b,⟨by show R.obj.length=_; rw [dz]; exact hg.len,fun gZ go ro q1 q2=>?_,hg.inj,fun b' o ho=>?_,fun g cs r8=>(hg.ck g cs r8).mono e,hg.lo⟩,?_,e,rfl,fun b' o ho=>?_⟩
     ·rcases bT q1 with ⟨rfl,rfl,_⟩ | ⟨cg,q1⟩
      ·have:ro=.bw b:=Option.some.inj (q2.symm.trans hb)
       subst this
       exact bK
      ·refine (hg.obj gZ go ro q1 q2).mono e (fun _ _=>rfl) (fun b' o jC ho=>?_)
       rcases ho with ho | ho
       ·exact ho
       ·subst ho
        exact absurd (hg.inj id gZ _ _ b' hb q2 rfl jC) cg
     ·rcases ho with ho | ho
      ·exact hg.wf b' o ho
      ·subst ho; exact bK
     ·refine Rel.list (xh (R:=R.all b) (fun o=>Or.inr rfl) hc.2 hc.1.2 (Nat.le_of_ble_eq_true hc.1.1.2) len (k2.mono e) k3 (Nat.eq_of_beq_eq_true h1.1) (fun j v hj=>?_) h1.2) ?_ eh trivial
      ·simp only [World.cell?,k1]
       simpa using hj
      ·rw [List.length_map]
       have:∀ (n:Nat) (l:List AV),(gG agg sz n l).length=n:=by
        intro n
        induction n with
        | zero=>intro l; rfl
        | succ n ih=>intro l; simp [gG,ih]
       rw [this]
     ·rcases ho with ho | ho
      ·exact .inl ho
      ·subst ho; exact .inr B7
    ·cases h
   ·cases h
  ·cases h
 ·rename_i cs
  cases h2:lH wk cs G with
  | mk c' q=>
  obtain ⟨dJ,G2⟩:=q
  rw [h2] at h
  injection h with h; injection h with h1 h; injection h with h3 h4
  subst h1 h3 h4
  cases hr with
  | agg hr jZ=>
  obtain ⟨R',r1,r2,r3,r4,r5⟩:=qQ hg hr h2
  exact ⟨R',r1,.agg r2 jZ,r3,r4,r5⟩
 ·-- an object's cells never change again
  rename_i id
  split at h
  ·rename_i cs el aX
   injection h with h; injection h with h1 h; injection h with h2 h3
   subst h2 h3
   cases hr with
   | @ptr _ _ b aU=>
   obtain ⟨vs,b1,b2,b3,b4⟩:=hg.obj id _ _ aX aU
   have r2:=qN R w b
   have r1:=hg.freeze aU rfl (show fO (R.all b) w .dead (.bw b) from bj b1)
   refine ⟨R.all b,r1,Rel.ep (dZ.make (b2.mono r2) b3 (fun j v hv=>?_) (fun j _=>.inr rfl)),r2,rfl,fun b' o hi=>?_⟩
   ·rw [iV b1,Nat.zero_add]
    exact hv
   ·rcases hi with hi | rfl
    ·exact .inl hi
    ·exact .inr ⟨id,_,aU,rfl⟩
  ·cases h
 ·cases h
theorem uW {cut wk:Bool}:∀ {ts:List TypeId} {rs Kd:List AV} {G G':List GO} {cs:List Value} {R:af},dN E R w G→aC R w rs cs→xf E cut wk ts rs G=(true,Kd,G') →
  ∃ R',dN E R' w G'∧aC R' w Kd cs∧Ext R w R' w∧R'.obj=R.obj∧∀ b o,R'.I b o→R.I b o∨Live R b
 | [],rs,Kd,G,G',cs,R,hg,hr,h=>by
  cases rs <;> (simp only [xf] at h; cases h; exact ⟨R,hg,hr,Ext.refl R w,rfl,fun _ _ h=>.inl h⟩)
 | _ :: _,[],Kd,G,G',cs,R,hg,hr,h=>by
  simp only [xf] at h; cases h; exact ⟨R,hg,hr,Ext.refl R w,rfl,fun _ _ h=>.inl h⟩
 | t :: ts,r :: rs,Kd,G,G',cs,R,hg,hr,h=>by
  cases hr with
  | cons h0 hr=>
  unfold xf at h
  split at h
  ·rename_i c r' G1 h1
   cases h2:xf E cut wk ts rs G1 with
   | mk c' q=>
   obtain ⟨UG,G2⟩:=q
   rw [h2] at h
   simp only [Prod.mk.injEq,Bool.and_eq_true] at h
   obtain ⟨⟨rfl,rfl⟩,rfl,rfl⟩:=h
   obtain ⟨R1,a1,a2,a3,a4,a5⟩:=M3 hg h0 h1
   obtain ⟨R2,b1,b2,b3,b4,b5⟩:=uW a1 (hr.mono a3) h2
   refine ⟨R2,b1,.cons (a2.mono b3) b2,a3.trans b3,b4.trans a4,fun b o ho=>?_⟩
   rcases b5 b o ho with ho | ho
   ·exact a5 b o ho
   ·obtain ⟨id,ro,q1,q2⟩:=ho
    rw [a4] at q1
    exact .inr ⟨id,ro,q1,q2⟩
  ·cases h2:xf E cut wk ts rs G with
   | mk c' q=>
   obtain ⟨UG,G2⟩:=q
   rw [h2] at h
   simp only [Prod.mk.injEq] at h
   obtain ⟨rfl,rfl,rfl⟩:=h
   obtain ⟨R2,b1,b2,b3,b4,b5⟩:=uW hg hr h2
   exact ⟨R2,b1,.cons (h0.mono b3) b2,b3,b4,b5⟩
theorem cJ.frz {g:FuncId} {args:List AV} {G:List GO} {X:Type} {cut wk:Bool} {ts:List TypeId} {K:AV→List GO→Option X} {x:X} (h:cJ E g args G (fun r G'=>QS E cut wk ts K r G'=some x)):cJ E g args G (fun r G'=>K r G'=some x):=
 ⟨h.1,fun R w cs hg hl=>(h.2 R w cs hg hl).mono fun e w' he=>by
  cases e with
  | panicked c=>exact he.elim
  | outgrown=>exact he.elim
  | returned c=>
   obtain ⟨r,G',R1,hq,dh,M2,st⟩:=he
   have fin:∀ (r':AV) (G2:List GO) (R2:af),K r' G2=some x→dN E R2 w' G2→Rel R2 w' r' c→Ext R1 w' R2 w'→R2.obj=R1.obj→(∀ b o,R2.I b o→R1.I b o∨Live R1 b)→Gl E R w (fun r G'=>K r G'=some x) (.returned c) w':=by
    intro r' G2 R2 k1 k2 k3 k4 k5 k6
    have live:∀ b,Live R2 b→Live R1 b:=fun b ⟨id,ro,q1,q2⟩=>⟨id,ro,by rw [← k5]; exact q1,q2⟩
    refine ⟨r',G2,R2,k1,k3,k2,⟨st.ext.trans k4,st.os,st.tape,st.output,st.size,st.bY,fun b hb ho=>?_,fun b o hi hb hn=>?_⟩⟩
    ·rcases ho with ho | ⟨k,cs,hk,rfl⟩
     ·exact st.own b hb (.inl (live b ho))
     ·simp [gN,cX] at hk
    ·rcases k6 b o hi with hi | hi
     ·exact st.im b o hi hb hn
     ·exact absurd (st.own b hb (.inl hi)) hn
   unfold QS at hq
   split at hq
   ·rename_i rs
    cases dh with
    | bF dh=>
    cases h2:xf E cut wk ts rs G' with
    | mk c' q=>
    obtain ⟨UG,G2⟩:=q
    rw [h2] at hq
    cases c' with
    | false=>cases hq
    | true=>
     obtain ⟨R2,b1,b2,b3,b4,b5⟩:=uW M2 dh h2
     exact fin (.bF UG) G2 R2 hq b1 (.bF b2) b3 b4 b5
   ·split at hq
    ·rename_i c' r' G2 h2
     cases c' with
     | false=>cases hq
     | true=>
      obtain ⟨R2,b1,b2,b3,b4,b5⟩:=uW M2 (.cons dh .nil) h2
      cases b2 with
      | cons b2 _=>exact fin r' G2 R2 hq b1 b2 b3 b4 b5
    ·cases hq⟩
end
end Go.Am
namespace Go.Am
open Go
inductive RP
 | Pp (p:aj)
 | map (pe:aj)
 | ep (ps:aK)
def RP.T:RP→Type
 | .Pp p=>p.T
 | .map pe=>List pe.T
 | .ep ps=>ps.T
def RP.enc (n:Nat):(p:RP)→p.T→AV
 | .Pp p,x=>p.enc x
 | .map _,_=>.map n
 | .ep ps,x=>.ep (ps.enc x)
def RP.Fj:(p:RP)→p.T→List GO
 | .Pp _,_=>[]
 | .map pe,(x:List pe.T)=>[.map (ab (x.map pe.enc))]
 | .ep _,_=>[]
def RP.no:RP→Nat
 | .map _=>1
 | _=>0
def sL:List RP→Type
 | []=>Unit
 | [p]=>p.T
 | p :: q :: l=>p.T × sL (q :: l)
def nU:(n:Nat)→(l:List RP)→sL l→List AV
 | _,[],_=>[]
 | n,[p],x=>[p.enc n x]
 | n,p :: q :: l,x=>p.enc n x.1 :: nU (n+p.no) (q :: l) x.2
def gF:(l:List RP)→sL l→List GO
 | [],_=>[]
 | [p],x=>p.Fj x
 | p :: q :: l,x=>p.Fj x.1++gF (q :: l) x.2
structure RF where
 bF:Bool
 l:List RP
def RF.val (f:RF) (n:Nat) (x:sL f.l):AV:=bif f.bF then .bF (nU n f.l x) else dC (nU n f.l x)
def RP.is:RP→AV→Bool
 | .Pp p,v=>match p with
  | .mN u=>dI v u
  | _=>true
 | .map _,v=>match v with
  | .map _=>true
  | _=>false
 | .ep _,v=>match v with
  | .ep _=>true
  | _=>false
def Ke:List RP→List AV→Bool
 | [],[]=>true
 | p :: l,v :: vs=>p.is v&&Ke l vs
 | _,_=>false
def RF.args (f:RF) (r:AV):List AV:=bif f.bF then r.PL else [r]
def RF.zN (f:RF):AV→Bool
 | .bF _=>f.bF
 | _=>!f.bF
def Be (G:List GO) (used:List Nat) (pe:aj) (v:AV):Option (List pe.T):=match v with
 | .map id=>match nth G id with
  | some (.map es)=>bif Mb used id then none else (bif allFit pe.fits (ah es) then some ((ah es).map pe.bh) else none)
  | _=>none
 | _=>none
def Gz (ps:aK) (v:AV):Option ps.T:=match v with
 | .ep cs=>ps.dec cs
 | _=>none
def RP.dec (G:List GO) (used:List Nat):(p:RP)→AV→Option p.T
 | .Pp p,v=>p.dec v
 | .map pe,v=>Be G used pe v
 | .ep ps,v=>Gz ps v
def sM (used:List Nat):AV→List Nat
 | .map id=>id :: used
 | _=>used
def sN (G:List GO):(used:List Nat)→(l:List RP)→List AV→Option (sL l)
 | _,[],vs=>match vs with
  | []=>some ()
  | _=>none
 | u,[p],vs=>match vs with
  | [v]=>p.dec G u v
  | _=>none
 | u,p :: q :: l,vs=>match vs with
  | v :: vs=>(p.dec G u v).bind fun x=>(sN G (sM u v) (q :: l) vs).bind fun y=>some (x,y)
  | []=>none
def RF.dec (f:RF) (G:List GO) (r:AV):Option (sL f.l):=bif f.zN r then sN G [] f.l (f.args r) else none
def RP.under:RP→Bool
 | .Pp p=>p.under 0
 | .map pe=>pe.under 0
 | .ep ps=>ps.under 0
def RF.under (f:RF):Bool:=f.l.all RP.under&&(f.bF || Nat.beq f.l.length 1)
def XT:List RF→Type
 | []=>Empty
 | [f]=>sL f.l
 | f :: g :: l=>sL f.l ⊕ XT (g :: l)
def Kf (G:List GO) (r:AV):(l:List RF)→Option (XT l)
 | []=>none
 | [f]=>f.dec G r
 | f :: g :: l=>bif f.zN r&&Ke f.l (f.args r) then (f.dec G r).bind fun x=>some (.inl x) else (Kf G r (g :: l)).bind fun x=>some (.inr x)
def TM {α:Type} (G:List GO) (K:AV→List GO→α):(l:List RF)→XT l→α
 | [],o=>Empty.rec (fun _=>α) o
 | [f],o=>K (f.val G.length o) (G++gF f.l o)
 | f :: g :: l,o=>Sum.elim (fun v=>K (f.val G.length v) (G++gF f.l v)) (fun o=>TM G K (g :: l) o) o
theorem CY {α:Type} {G:List GO} {K:AV→List GO→α} {r:AV} {G':List GO}:∀ (l:List RF) (o:XT l),TM G (fun r0 G0=>r=r0∧G'=G0) l o→K r G'=TM G K l o
 | [],o,_=>nomatch o
 | [f],o,h=>by
  have h:r=f.val G.length o∧G'=G++gF f.l o:=h
  rw [h.1,h.2]; rfl
 | f :: g :: l,.inl v,h=>by
  have h:r=f.val G.length v∧G'=G++gF f.l v:=h
  rw [h.1,h.2]; rfl
 | f :: g :: l,.inr o,h=>CY (g :: l) o h
def xi (E:Env) (g:FuncId) (args:List AV) (outs:List RF) (Q:XT outs→Prop):Prop:=
 ∀ G,cJ E g args G (fun r G'=>∃ y,Q y∧TM G (fun r0 G0=>r=r0∧G'=G0) outs y)
section
variable {E:Env} {R R1 R2:af} {w:World}
theorem dg.Pq (m:Mv R R2 0):∀ {es:List (AV × AV)} {l:List AV} {az:List MapEntry},jw (ah es) l→aF 0 l=true→dg R w es az→dg R2 w (ab l) az
 | [],[],[],_,_,_=>trivial
 | [],[],_ :: _,_,_,h=>h.elim
 | [],_ :: _,_,h,_,_=>h.elim
 | (_,_) :: _,[],_,h,_,_=>h.elim
 | (_,_) :: _,_ :: _,[],_,_,h=>h.elim
 | (k,v) :: es,a :: l,en :: az,hd,hu,h=>by
  obtain ⟨d1,d2⟩:=hd
  simp only [aF,Bool.and_eq_true] at hu
  have hc:=d1.cells rfl
  have hl:[k,v].length=a.cells.length:=hc.length
  cases a with
  | agg cs=>
   match cs,hc,hl with
   | [k',v'],hc,_=>
    have QO:aF 0 [k',v']=true:=hu.1
    simp only [aF,Bool.and_true,Bool.and_eq_true] at QO
    exact ⟨(hc.1 _ _ _ h.1).move m QO.1,(hc.2.1 _ _ _ h.2.1).move m QO.2,dg.Pq m d2 hu.2 h.2.2⟩
   | [],_,hl=>simp [AV.cells] at hl
   | [_],_,hl=>simp [AV.cells] at hl
   | _ :: _ :: _ :: _,_,hl=>simp [AV.cells] at hl
  | _=>simp [AV.cells] at hl
theorem aj.xj {p:aj} (h:p.under 0=true):∀ l:List p.T,aF 0 (l.map p.enc)=true
 | []=>rfl
 | x :: l=>by
  show ((p.enc x).under 0&&aF 0 (l.map p.enc))=true
  rw [p.dj x h,aj.xj h l]
  rfl
def xl (R:af) (n:Nat) (bs:List Nat):Prop:=∀ k b,nth bs k=some b→nth R.obj (n+k)=some (.bw b)
def GA (R:af) (w:World) (gs:List GO) (bs:List Nat):Prop:=∀ k go b,nth gs k=some go→nth bs k=some b→fO R w go (.bw b)
theorem RP.Pr (p:RP) (x:p.T):(p.Fj x).length=p.no:=by cases p <;> rfl
theorem Kg {ps:aK} {v:AV} {y:ps.T} (h:Gz ps v=some y):∃ cs,v=.ep cs∧ps.dec cs=some y:=by
 unfold Gz at h
 split at h
 ·exact ⟨_,rfl,h⟩
 ·cases h
theorem H9 {G:List GO} {used:List Nat} {pe:aj} {v:AV} {y:List pe.T} (h:Be G used pe v=some y):∃ id es,v=.map id∧nth G id=some (.map es)∧id∉used∧jw (ah es) (y.map pe.enc):=by
 unfold Be at h
 split at h
 ·rename_i id
  split at h
  ·rename_i es B2
   cases hu:Mb used id with
   | true=>rw [hu] at h; cases h
   | false=>
    rw [hu,cond_false] at h
    cases hf:allFit pe.fits (ah es) with
    | false=>rw [hf] at h; cases h
    | true=>
     rw [hf,cond_true] at h
     have hy:=Option.some.inj h
     refine ⟨id,es,rfl,B2,fun hm=>?_,?_⟩
     ·rw [A5.2 hm] at hu; cases hu
     ·rw [← hy]; exact jw.of (fun v hv=>pe.cD hv) hf
  ·cases h
 ·cases h
theorem Fk {used:List Nat} {v:AV} {id:Nat} (h:id∈used):id∈sM used v:=by
 unfold sM
 split
 ·exact List.mem_cons_of_mem _ h
 ·exact h
def Bf (R1:af) (w:World) (used:List Nat) (v:AV) (c:Value) (p:RP) (y:p.T):Prop:=
 ∃ bs:List Nat,bs.length=p.no∧(∀ b∈bs,∃ id,id∉used∧id∈sM used v∧nth R1.obj id=some (.bw b)) ∧
   ∀ (R2:af) (n:Nat),(∀ b o,R1.I b o→R2.I b o)→xl R2 n bs→Rel R2 w (p.enc n y) c∧GA R2 w (p.Fj y) bs
theorem YK {R1 R2:af} (hI:∀ b o,R1.I b o→R2.I b o):Mv R1 R2 0:=⟨hI,fun _ _ h=>absurd h (Nat.not_lt_zero _)⟩
theorem RP.QT {used:List Nat} {p:aj} {v:AV} {c:Value} {y:p.T} (hp:p.under 0=true) (hv:Rel R1 w v c) (hd:p.dec v=some y):Bf R1 w used v c (.Pp p) y:=
 ⟨[],rfl,(fun b hb=>by cases hb),fun R2 n hI _=>⟨Rel.move (YK hI) (p.dj y hp) ((p.px hd).gq _ _ _ hv),fun k go b h=>by cases k <;> cases h⟩⟩
theorem RP.U5 {used:List Nat} {ps:aK} {v:AV} {c:Value} {y:ps.T} (hp:ps.under 0=true) (hv:Rel R1 w v c) (hd:Gz ps v=some y):Bf R1 w used v c (.ep ps) y:=by
 obtain ⟨cs,rfl,hd⟩:=Kg hd
 cases hv with
 | ep hc=>
 exact ⟨[],rfl,(fun b hb=>by cases hb),fun R2 n hI _=>⟨.ep (dZ.move (YK hI) ((ps.px hd).1.Jb hc) (ps.dj y hp)),fun k go b h=>by cases k <;> cases h⟩⟩
theorem RP.QU {G1:List GO} (hg:dN E R1 w G1) {used:List Nat} {pe:aj} {v:AV} {c:Value} {y:List pe.T} (hp:pe.under 0=true) (hv:Rel R1 w v c) (hd:Be G1 used pe v=some y):Bf R1 w used v c (.map pe) y:=by
 obtain ⟨id,es,rfl,B2,hu,hdl⟩:=H9 hd
 cases hv with
 | map hb=>
 rename_i b
 refine ⟨[b],rfl,fun b' jC=>?_,fun R2 n hI mR=>⟨.map (by have:=mR 0 b rfl; simpa using this),fun k go b' h1 h2=>?_⟩⟩
 ·rw [List.mem_singleton] at jC
  subst jC
  exact ⟨id,hu,List.mem_cons_self,hb⟩
 ·cases k with
  | succ k=>cases h2
  | zero=>
   cases h1; cases h2
   obtain ⟨az,clock,e1,e2,e3⟩:=hg.obj id _ _ B2 hb
   exact ⟨az,clock,e1,dg.Pq (YK hI) hdl (aj.xj hp y) e2,e3⟩
theorem RP.ok {G1:List GO} (hg:dN E R1 w G1) {used:List Nat} {p:RP} {v:AV} {c:Value} {y:p.T} (hp:p.under=true) (hv:Rel R1 w v c) (hd:p.dec G1 used v=some y):Bf R1 w used v c p y:=by
 cases p with
 | Pp p=>exact RP.QT hp hv hd
 | ep ps=>exact RP.U5 hp hv hd
 | map pe=>exact RP.QU hg hp hv hd
theorem fX {α:Type} {l r:List α} {i:Nat} (h:i < l.length):nth (l++r) i=nth l i:=by
 rw [aG,aG,List.getElem?_append_left h]
theorem fa {α:Type} {l r:List α} (i:Nat):nth (l++r) (l.length+i)=nth r i:=by
 rw [aG,aG,List.getElem?_append_right (Nat.le_add_right _ _),Nat.add_sub_cancel_left]
theorem oD {α:Type} {l:List α} {i:Nat} {x:α} (h:nth l i=some x):i < l.length:=by
 rw [aG] at h
 exact (List.getElem?_eq_some_iff.1 h).1
theorem RPs.ok {G1:List GO} (hg:dN E R1 w G1):∀ {l:List RP} {used:List Nat} {vs:List AV} {cs:List Value} {y:sL l},l.all RP.under=true→aC R1 w vs cs→sN G1 used l vs=some y →
  ∃ bs:List Nat,bs.length=(gF l y).length∧bs.Nodup∧(∀ b∈bs,∃ id,id∉used∧nth R1.obj id=some (.bw b)) ∧
   ∀ (R2:af) (n:Nat),(∀ b o,R1.I b o→R2.I b o)→xl R2 n bs→aC R2 w (nU n l y) cs∧GA R2 w (gF l y) bs
 | [],used,vs,cs,y,_,hv,hd=>by
  cases vs with
  | cons _ _=>cases hd
  | nil=>
  cases hv
  exact ⟨[],rfl,List.nodup_nil,(fun b hb=>by cases hb),fun R2 n _ _=>⟨.nil,fun k go b h=>by simp [gF,nth] at h⟩⟩
 | [p],used,vs,cs,y,hu,hv,hd=>by
  match vs,hv,hd with
  | [],_,hd=>cases hd
  | _ :: _ :: _,_,hd=>cases hd
  | [v],.cons hv .nil,hd=>
  have hu:p.under=true:=by simpa using hu
  obtain ⟨bs,h1,h2,h4⟩:=RP.ok hg hu hv hd
  refine ⟨bs,h1.trans (p.Pr y).symm,?_,fun b hb=>let ⟨id,q1,_,q2⟩:=h2 b hb; ⟨id,q1,q2⟩,fun R2 n hI mR=>?_⟩
  ·have:bs.length≤1:=by rw [h1]; cases p <;> simp [RP.no]
   match bs,this with
   | [],_=>exact List.nodup_nil
   | [b],_=>simp
   | _ :: _ :: _,h=>simp at h
  ·obtain ⟨k1,k2⟩:=h4 R2 n hI mR
   exact ⟨.cons k1 .nil,k2⟩
 | p :: q :: l,used,vs,cs,y,hu,hv,hd=>by
  match vs,hv,hd with
  | [],_,hd=>cases hd
  | v :: vs,.cons (c:=c) (cs:=cs) hv U0,hd=>
  simp only [List.all_cons,Bool.and_eq_true] at hu
  obtain ⟨hu1,TN⟩:=hu
  have TN:(q :: l).all RP.under=true:=by simpa using TN
  have hd:((p.dec G1 used v).bind fun x=>(sN G1 (sM used v) (q :: l) vs).bind fun y=>some (x,y))=some y:=hd
  cases hx:p.dec G1 used v with
  | none=>rw [hx] at hd; cases hd
  | some x=>
  rw [hx] at hd
  simp only [Option.bind_some] at hd
  cases hz:sN G1 (sM used v) (q :: l) vs with
  | none=>rw [hz] at hd; cases hd
  | some z=>
  rw [hz] at hd
  simp only [Option.bind_some] at hd
  cases hd
  obtain ⟨bs,h1,h2,h4⟩:=RP.ok hg hu1 hv hx
  obtain ⟨bs',k1,k0,k2,k4⟩:=RPs.ok hg TN U0 hz
  have AK:bs.length=(p.Fj x).length:=h1.trans (p.Pr x).symm
  refine ⟨bs++bs',?_,?_,fun b hb=>?_,fun R2 n hI mR=>?_⟩
  ·show _=(p.Fj x++gF (q :: l) z).length
   rw [List.length_append,List.length_append,AK,k1]
  ·have D6:bs.Nodup:=by
    have:bs.length≤1:=by rw [h1]; cases p <;> simp [RP.no]
    match bs,this with
    | [],_=>exact List.nodup_nil
    | [b],_=>simp
    | _ :: _ :: _,h=>simp at h
   rw [List.nodup_append]
   refine ⟨D6,k0,fun a ha b hb e=>?_⟩
   subst e
   obtain ⟨id,_,q2,q3⟩:=h2 a ha
   obtain ⟨gZ,r1,r2⟩:=k2 a hb
   have:id=gZ:=hg.inj id gZ _ _ a q3 r2 rfl rfl
   subst this
   exact r1 q2
  ·rcases List.mem_append.1 hb with hb | hb
   ·obtain ⟨id,q1,_,q2⟩:=h2 b hb
    exact ⟨id,q1,q2⟩
   ·obtain ⟨id,q1,q2⟩:=k2 b hb
    exact ⟨id,fun hm=>q1 (Fk hm),q2⟩
  ·have at1:xl R2 n bs:=fun k b hk=>mR k b (by rw [fX (oD hk)]; exact hk)
   have at2:xl R2 (n+p.no) bs':=fun k b hk=>by
    have:=mR (bs.length+k) b (by rw [fa]; exact hk)
    rw [h1] at this
    rw [Nat.add_assoc]; exact this
   obtain ⟨a1,a2⟩:=h4 R2 n hI at1
   obtain ⟨b1,b2⟩:=k4 R2 (n+p.no) hI at2
   refine ⟨.cons a1 b1,fun k go b fP hb=>?_⟩
   change nth (p.Fj x++gF (q :: l) z) k=some go at fP
   rcases Nat.lt_or_ge k bs.length with hk | hk
   ·rw [fX (by rw [← AK]; exact hk)] at fP
    rw [fX hk] at hb
    exact a2 k go b fP hb
   ·obtain ⟨j,rfl⟩:∃ j,k=bs.length+j:=⟨k - bs.length,by omega⟩
    rw [fa] at hb
    rw [AK,fa] at fP
    exact b2 j go b fP hb
theorem xm:∀ (l:List RP) (n:Nat) (y:sL l),(nU n l y).length=l.length
 | [],_,_=>rfl
 | [_],_,_=>rfl
 | p :: q :: l,n,y=>by
  show (nU (n+p.no) (q :: l) y.2).length+1=(q :: l).length+1
  rw [xm (q :: l)]
theorem xi.of1 {R0:af} {w0:World} {f:RF} {G G1:List GO} {r:AV} {c:Value} {y:sL f.l} (hf:f.under=true) (hG:dN E R0 w0 G) (st:Step ⟨R0.I,[]⟩ w0 (fun _=>0) gN R1 w (fun _=>0) gN) (hg:dN E R1 w G1) (dh:Rel R1 w r c) (hd:f.dec G1 r=some y) :
  ∃ R2,Rel R2 w (f.val G.length y) c∧dN E R2 w (G++gF f.l y)∧Step R0 w0 (fun _=>0) gN R2 w (fun _=>0) gN:=by
 unfold RF.under at hf
 rw [Bool.and_eq_true] at hf
 unfold RF.dec at hd
 obtain ⟨ht,hd⟩:f.zN r=true∧sN G1 [] f.l (f.args r)=some y:=by
  cases ht:f.zN r with
  | true=>rw [ht] at hd; exact ⟨rfl,hd⟩
  | false=>rw [ht] at hd; cases hd
 obtain ⟨cs,mX,U6⟩:∃ cs,aC R1 w (f.args r) cs∧∀ R2 (x:sL f.l) n,aC R2 w (nU n f.l x) cs→Rel R2 w (f.val n x) c:=by
  unfold RF.args RF.val
  cases YL:f.bF with
  | true=>
   have:∃ vs,r=.bF vs:=by
    cases r <;> first | exact ⟨_,rfl⟩ | (simp [RF.zN,YL] at ht)
   obtain ⟨vs,rfl⟩:=this
   cases dh with
   | bF h=>exact ⟨_,h,fun R2 x n h=>.bF h⟩
  | false=>
   refine ⟨[c],.cons dh .nil,fun R2 x n h=>?_⟩
   simp only [cond_false]
   have hlen:=xm f.l n x
   revert h hlen
   generalize nU n f.l x=l
   intro h hlen
   cases h with
   | cons h _=>exact h
 obtain ⟨bs,h1,h2,h3,h4⟩:=RPs.ok hg hf.1 mX hd
 have iX:∀ b,¬ Own (⟨R0.I,[]⟩:af) (fun _=>0) gN b:=fun b ho=>by
  obtain ⟨id,ro,q1,_⟩:=eC ho
  simp [nth] at q1
 have mq:∀ b∈bs,w0.heap.size≤b:=fun b hb=>by
  obtain ⟨id,_,aX⟩:=h3 b hb
  rcases Nat.lt_or_ge b w0.heap.size with bK | qe
  ·exact absurd (st.own b bK (.inl ⟨id,_,aX,rfl⟩)) (iX b)
  ·exact qe
 let R2:af:=⟨R1.I,R0.obj++bs.map RO.bw⟩
 have e:Ext R0 w0 R2 w:=⟨st.ext.I,st.ext.cell,fun id ro h=>⟨ro,by rw [fX (oD h)]; exact h,bQ.refl ro⟩,st.ext.lp⟩
 have bY:∀ b,b < w0.heap.size→w.heap[b]?=w0.heap[b]?:=fun b hb=>st.bY b hb (iX b)
 have im:∀ b o,b < w0.heap.size→R1.I b o→R0.I b o:=fun b o hb hi=>st.im b o hi hb (iX b)
 have YM:∀ {k ro},nth (bs.map RO.bw) k=some ro→∃ b,nth bs k=some b∧ro=.bw b:=fun {k ro} h=>by
  rw [aG,List.getElem?_map] at h
  cases hb:bs[k]? with
  | none=>rw [hb] at h; cases h
  | some b=>rw [hb] at h; exact ⟨b,by rw [aG]; exact hb,(Option.some.inj h).symm⟩
 have mR:xl R2 R0.obj.length bs:=fun k b hk=>by
  show nth (R0.obj++bs.map RO.bw) (R0.obj.length+k)=_
  rw [fa,aG,List.getElem?_map]
  rw [aG] at hk
  rw [hk]; rfl
 obtain ⟨k1,k2⟩:=h4 R2 R0.obj.length (fun _ _ h=>h) mR
 rw [hG.len] at k1
 have hold:∀ id ro,nth R2.obj id=some ro→nth R0.obj id=some ro∨∃ k b,id=R0.obj.length+k∧nth bs k=some b∧ro=.bw b:=fun id ro h=>by
  rcases Nat.lt_or_ge id R0.obj.length with bK | qe
  ·exact .inl (by rw [← fX (r:=bs.map RO.bw) bK]; exact h)
  ·obtain ⟨k,rfl⟩:∃ k,id=R0.obj.length+k:=⟨id - R0.obj.length,by omega⟩
   have h:nth (R0.obj++bs.map RO.bw) (R0.obj.length+k)=some ro:=h
   rw [fa] at h
   obtain ⟨b,q1,q2⟩:=YM h
   exact .inr ⟨k,b,rfl,q1,q2⟩
 have Ps:∀ id ro b,nth R0.obj id=some ro→ro.has b→b < w0.heap.size:=fun id ro b h hb=>by
  have hl:=oD h
  rw [hG.len] at hl
  have fP:nth G id=some G[id]:=by rw [aG]; exact List.getElem?_eq_getElem hl
  exact (hG.obj id _ _ fP h).lt hb
 have QV:∀ {k b},nth bs k=some b→b∈bs:=fun {k b} h=>by
  rw [aG] at h
  exact List.mem_of_getElem? h
 refine ⟨R2,U6 R2 y _ k1,⟨?_,fun id go ro q1 q2=>?_,fun i j ri rj b q1 q2 b1 b2=>?_,hg.wf,fun g cs r8=>(hG.ck g cs r8).mono e,hg.lo⟩,⟨e,st.os,st.tape,st.output,st.size,fun b hb _=>bY b hb,fun b hb ho=>?_,fun b o hi hb _=>im b o hb hi⟩⟩
 ·show (R0.obj++bs.map RO.bw).length=_
  rw [List.length_append,List.length_map,List.length_append,hG.len,h1]
 ·rcases hold id ro q2 with q2 | ⟨k,b,rfl,q3,rfl⟩
  ·have hl:=oD q2
   rw [hG.len] at hl
   rw [fX hl] at q1
   refine (hG.obj id go ro q1 q2).mono e (fun b hb=>bY b ?_) (fun b o hb hi=>im b o ?_ hi)
   ·exact (hG.obj id go ro q1 q2).lt hb
   ·exact (hG.obj id go ro q1 q2).lt hb
  ·rw [hG.len,fa] at q1
   exact k2 k go b q1 q3
 ·rcases hold i ri q1 with q1 | ⟨k,a,rfl,q3,rfl⟩
  ·rcases hold j rj q2 with q2 | ⟨k',a',rfl,q4,rfl⟩
   ·exact hG.inj i j ri rj b q1 q2 b1 b2
   ·have:b=a':=b2
    subst this
    have:=mq _ (QV q4)
    have:=Ps i ri b q1 b1
    omega
  ·have hba:b=a:=b1
   subst hba
   rcases hold j rj q2 with q2 | ⟨k',a',rfl,q4,rfl⟩
   ·have:=mq _ (QV q3)
    have:=Ps j rj b q2 b2
    omega
   ·have:b=a':=b2
    subst this
    have l1:=oD q3
    have l2:=oD q4
    rw [aG] at q3 q4
    have:=(List.getElem?_inj l1 h2).1 (q3.trans q4.symm)
    omega
 ·rcases eC ho with ⟨id,ro,q1,q2⟩
  rcases hold id ro q1 with q1 | ⟨k,a,rfl,q3,rfl⟩
  ·exact .inl ⟨id,ro,q1,q2⟩
  ·have:b=a:=q2
   subst this
   have:=mq _ (QV q3)
   omega
theorem GB {G1:List GO} {r:AV}:∀ {outs:List RF} {y:XT outs},Kf G1 r outs=some y→(∀ f∈outs,f.under=true) →
  ∃ (f:RF) (z:sL f.l),f.under=true∧f.dec G1 r=some z∧∀ {α:Type} (G:List GO) (K:AV→List GO→α),TM G K outs y=K (f.val G.length z) (G++gF f.l z)
 | [],_,h,_=>by cases h
 | [f],y,h,hu=>⟨f,y,hu f (by simp),h,fun _ _=>rfl⟩
 | f :: g :: l,y,h,hu=>by
  simp only [Kf] at h
  cases hb:(f.zN r&&Ke f.l (f.args r)) with
  | true=>
   rw [hb] at h
   simp only [cond_true] at h
   cases hx:f.dec G1 r with
   | none=>rw [hx] at h; cases h
   | some x=>
    rw [hx] at h
    cases h
    exact ⟨f,x,hu f (by simp),hx,fun _ _=>rfl⟩
  | false=>
   rw [hb] at h
   simp only [cond_false] at h
   cases hx:Kf G1 r (g :: l) with
   | none=>rw [hx] at h; cases h
   | some x=>
    rw [hx] at h
    cases h
    obtain ⟨f',z,k0,k1,k2⟩:=GB hx (fun f hf=>hu f (List.mem_cons_of_mem _ hf))
    exact ⟨f',z,k0,k1,fun G K=>k2 G K⟩
theorem xi.of {g:FuncId} {args:List AV} {outs:List RF} {Q:XT outs→Prop} (hc:aF 0 args=true) (hp:∀ f∈outs,f.under=true)
  (h:cJ E g args [] (fun r G'=>∃ y,Kf G' r outs=some y∧Q y)):xi E g args outs Q:=fun G=>by
 refine ⟨h.1,fun R w cs hg hl=>?_⟩
 let R0:af:=⟨R.I,[]⟩
 have m0:Mv R R0 0:=⟨fun _ _ h=>h,fun _ _ h=>absurd h (Nat.not_lt_zero _)⟩
 have O3:dN E R0 w []:=⟨rfl,fun id go ro h1 _=>by simp [nth] at h1,fun i j ri rj b h1=>by simp [R0,nth] at h1,hg.wf,fun g cs r8=>(hg.ck g cs r8).move m0 (cm _ (E.vg g cs r8)),hg.lo⟩
 have r7:aC R0 w args cs:=hl.move m0 hc
 refine (h.2 R0 w cs O3 r7).mono fun e w' he=>?_
 cases e with
 | panicked c=>exact he.elim
 | outgrown=>exact he.elim
 | returned c=>
  obtain ⟨r,G',R1,⟨y,hy,hQ⟩,dh,M2,st⟩:=he
  obtain ⟨f,z,hf,hz,fP⟩:=GB hy hp
  obtain ⟨R2,k1,k2,k3⟩:=xi.of1 hf hg st M2 dh hz
  refine ⟨_,_,R2,⟨y,hQ,?_⟩,k1,k2,k3⟩
  rw [fP]
  exact ⟨rfl,rfl⟩
end
end Go.Am
namespace Go.Am
open Go
def rq (s:St) (t:Tmp) (sz:Nat) (e:TypeId):Option (Bool × St):=match lk s.ae t with
 | .v (.list (.own id) a6 es)=>match nth s.G id with
  | some (.tok f iu e2)=>if Nat.beq a6 sz&&(Nat.beq iu sz&&Nat.beq e2 e) then
    some (decide (f=es.length),⟨.put t (.v (.list .gX sz es)) :: s.ae,s.boxes,au s.G id .dead,s.marks,s.ro,s.n⟩) else none
  | _=>none
 | _=>none
def tS (s:St) (t:Tmp) (sz:Nat) (e:TypeId):Option St:=match lk s.ae t with
 | .v (.list _ a6 es)=>if Nat.beq a6 sz then some ⟨.put t (.v (.list (.own s.G.length) sz es)) :: s.ae,s.boxes,s.G++[.tok es.length sz e],s.marks,s.ro,s.n⟩ else none
 | _=>none
section
variable {E:Env} {R:af} {w:World} {β:Nat→Nat} {s:St} {a:Act}
def pM (R:af) (w:World) (β:Nat→Nat) (bx:cp) (c:Value) (n sz:Nat) (e:TypeId) (ro:RO):Prop:=
 fO R w (.tok n sz e) ro∧(∀ b,ro.has b→¬ Live R b∧∀ k cs,cX bx k=some cs→β k≠b) ∧
  ((c=.slice none 0 0∧ro=.aR)∨∃ b o len cap,c=.slice (some ⟨b,o,none⟩) len cap∧len=n∧I4 b o len cap ro)
theorem pM.mono {R R':af} {bx FX:cp} {c:Value} {n sz:Nat} {e:TypeId} {ro:RO} (h:pM R w β bx c n sz e ro) (hI:R'.I=R.I) (hl:∀ b,Live R' b→Live R b) (hb:∀ k cs,cX FX k=some cs→∃ dJ,cX bx k=some dJ):pM R' w β FX c n sz e ro:=by
 obtain ⟨h1,h2,h3⟩:=h
 refine ⟨?_,fun b FZ=>⟨fun q=>(h2 b FZ).1 (hl b q),fun k cs hk=>let ⟨dJ,gm⟩:=hb k cs hk; (h2 b FZ).2 k dJ gm⟩,h3⟩
 cases ro with
 | tok f g c k=>
  obtain ⟨q1,cur,q2,q3,q4,q5,q6⟩:=h1
  exact ⟨q1,cur,q2,q3,q4,q5,fun o ho=>by rw [hI]; exact q6 o ho⟩
 | aR=>exact h1
 | none=>exact h1.elim
 | bw _=>exact h1.elim
 | aM _=>exact h1.elim
theorem zO {t:Tmp} {sz:Nat} {e:TypeId} {s':St} (h:aQ E R w β s a) (hs:rq s t sz e=some (true,s')) :
  ∃ R' c ro es,aQ E R' w β s' a∧Step R w β s.boxes R' w β s'.boxes∧s'.ro=s.ro∧aB s s'∧s'.boxes=s.boxes∧lk s'.ae t=.v (.list .gX sz es)∧a.tmps[t]?=some c∧pM R' w β s'.boxes c es.length sz e ro∧∀ b,ro.has b→Live R b:=by
 unfold rq at hs
 split at hs
 ·rename_i id a6 es ht
  split at hs
  ·rename_i f iu e2 aX
   split at hs
   ·rename_i bH
    simp only [Bool.and_eq_true] at bH
    have q1:=Nat.eq_of_beq_eq_true bH.1
    have q2:=Nat.eq_of_beq_eq_true bH.2.1
    have q3:=Nat.eq_of_beq_eq_true bH.2.2
    subst q1; subst q2; subst q3
    injection hs with hs; injection hs with hc hs
    have hf:=of_decide_eq_true hc
    subst hf
    obtain ⟨c,k1,k2⟩:=h.t t (by rw [ht]; simp)
    rw [ht] at k2
    have k2:Rel R w (.list (.own id) iu es) c:=k2
    obtain ⟨ro,aU⟩:∃ ro,nth R.obj id=some ro:=by
     have bK:=aT aX
     rw [← h.g.len] at bK
     exact ⟨R.obj[id],by rw [aG,List.getElem?_eq_getElem bK]⟩
    have bt:=h.g.obj id _ _ aX aU
    let R':af:=⟨R.I,au R.obj id .none⟩
    have hle:bQ ro .none:=by cases ro <;> first | trivial | exact bt.elim
    have ext:Ext R w R' w:=⟨fun _ _ h=>h,fun _ _ _=>rfl,fun i r hr=>by
     by_cases ei:id=i
     ·subst ei
      rw [aU] at hr
      cases hr
      exact ⟨_,an aU,hle⟩
     ·exact ⟨r,by rw [aD ei]; exact hr,bQ.refl r⟩,dU.refl w⟩
    have hinv:∀ {i:Nat} {r:RO},nth R'.obj i=some r→(i=id∧r=.none)∨(i≠id∧nth R.obj i=some r):=fun hr=>aq aU hr
    have live:∀ b,Live R' b→Live R b:=fun b ⟨i,r,l1,l2⟩=>by
     rcases hinv l1 with ⟨_,rfl⟩ | ⟨_,l1⟩
     ·exact l2.elim
     ·exact ⟨i,r,l1,l2⟩
    have hex:aB s s':=by subst hs; exact ⟨⟨[_],rfl⟩,⟨[],rfl⟩,rfl⟩
    have U7:Rel R' w (.list .gX iu es) c:=by
     cases k2 with
     | jY _ _=>exact .hZ
     | list hr hl eh _=>exact Rel.list (hr.mono ext) hl eh trivial
    have AT:pM R' w β s'.boxes c es.length iu e2 ro:=by
     refine ⟨?_,fun b hb=>⟨fun ⟨i,r,l1,l2⟩=>?_,fun k cs hk he=>?_⟩,?_⟩
     ·cases ro <;> first | exact bt | exact bt.elim
     ·rcases hinv l1 with ⟨_,rfl⟩ | ⟨cg,l1⟩
      ·exact l2.elim
      ·exact cg (h.g.inj i id r ro b l1 aU l2 hb)
     ·subst hs
      exact (h.b.box k cs hk).2.2 ⟨id,ro,aU,by rw [he]; exact hb⟩
     ·cases k2 with
      | jY h1 h2=>
       rw [aU] at h1
       cases h1
       refine .inl ⟨rfl,?_⟩
       cases ro with
       | aR=>rfl
       | none=>exact bt.elim
       | bw _=>exact bt.elim
       | aM _=>exact bt.elim
       | tok f g c k=>
        obtain ⟨q,_⟩:=bt
        simp only [List.length_nil] at q
        simp only [li] at h2
        omega
      | @list _ _ _ b o len cap hr hl eh hk=>
       obtain ⟨r',h1,h2⟩:=hk
       rw [aU] at h1
       cases h1
       exact .inr ⟨b,o,len,cap,rfl,hl,h2⟩
    refine ⟨R',c,ro,es,?_,?_,by subst hs; rfl,hex,by subst hs; rfl,by subst hs; exact ax _ _ _,k1,AT,fun b hb=>⟨id,ro,aU,hb⟩⟩
    ·subst hs
     refine ⟨⟨by simp [R',h.g.len],fun i gg r g1 g2=>?_,fun i j ri rj b g1 g2 b1 b2=>?_,h.g.wf,fun g cs hg=>(h.g.ck g cs hg).mono ext,h.g.lo⟩,h.b.bY ext (fun _ _ _=>rfl) (fun _ _ _ _ hi=>hi) (fun _ _ _ hl=>live _ hl),fun i hi=>?_,h.n,h.d.mono ext⟩
     ·rcases hinv g2 with ⟨rfl,rfl⟩ | ⟨cg,g2⟩
      ·rw [an aX] at g1
       cases g1
       trivial
      ·rw [aD (Ne.symm cg)] at g1
       exact (h.g.obj i gg r g1 g2).mono ext (fun _ _=>rfl) (fun _ _ _ hi=>hi)
     ·rcases hinv g1 with ⟨_,rfl⟩ | ⟨_,g1⟩
      ·exact b1.elim
      ·rcases hinv g2 with ⟨_,rfl⟩ | ⟨_,g2⟩
       ·exact b2.elim
       ·exact h.g.inj i j ri rj b g1 g2 b1 b2
     ·by_cases e:t=i
      ·subst e
       rw [ax]
       exact ⟨c,k1,U7⟩
      ·rw [aI e] at hi ⊢
       obtain ⟨c',l1,l2⟩:=h.t i hi
       exact ⟨c',l1,l2.mono ext⟩
    ·subst hs
     refine ⟨ext,rfl,rfl,rfl,Nat.le_refl _,fun _ _ _=>rfl,fun b _ ho=>?_,fun _ _ hi _ _=>hi⟩
     rcases ho with ho | ho
     ·exact .inl (live b ho)
     ·exact .inr ho
   ·cases hs
  ·cases hs
 ·cases hs
theorem Ia {t:Tmp} {sz:Nat} {e:TypeId} {c:Value} {n:Nat} {ro:RO} {s':St} (h:aQ E R w β s a) (hs:tS s t sz e=some s') (hc:a.tmps[t]?=some c) (ho:pM R w β s.boxes c n sz e ro) :
  aQ E (R.add ro) w β s' a∧s'.boxes=s.boxes∧s'.ro=s.ro∧aB s s':=by
 unfold tS at hs
 split at hs
 ·rename_i k a6 es hl
  split at hs
  ·rename_i hz
   have hz:=Nat.eq_of_beq_eq_true hz
   subst hz
   cases hs
   obtain ⟨o1,o2,o3⟩:=ho
   obtain ⟨c',k1,k2⟩:=h.t t (by rw [hl]; simp)
   rw [hc] at k1
   cases k1
   rw [hl] at k2
   have k2:Rel R w (.list k a6 es) c:=k2
   have ext:Ext R w (R.add ro) w:=⟨fun _ _ h=>h,fun _ _ _=>rfl,fun _ r hr=>⟨r,bq hr,bQ.refl r⟩,dU.refl w⟩
   have mq:nth (R.add ro).obj s.G.length=some ro:=by rw [← h.g.len]; exact dE _ _
   have dh:es.length=n∧Rel (R.add ro) w (.list (.own s.G.length) a6 es) c:=by
    rcases o3 with ⟨rfl,rfl⟩ | ⟨b,o,len,cap,rfl,rfl,hk⟩
    ·have hn:n=0:=o1
     subst hn
     cases k2 <;> exact ⟨rfl,Rel.jY mq trivial⟩
    ·cases k2 with
     | lj=>exact ⟨rfl,Rel.list .nil rfl (Nat.le_refl _) ⟨_,mq,hk⟩⟩
     | list hr hlen eh _=>exact ⟨hlen.symm,Rel.list (hr.mono ext) hlen eh ⟨_,mq,hk⟩⟩
   obtain ⟨hn,dh⟩:=dh
   subst hn
   refine ⟨⟨⟨by simp [af.add,h.g.len],fun i gg r g1 g2=>?_,fun i j ri rj b g1 g2 b1 b2=>?_,h.g.wf,fun g cs hg=>(h.g.ck g cs hg).mono ext,h.g.lo⟩,h.b.bY ext (fun _ _ _=>rfl) (fun _ _ _ _ hi=>hi) (fun k cs hk hl=>?_),fun i hi=>?_,h.n,h.d.mono ext⟩,rfl,rfl,⟨⟨[_],rfl⟩,⟨[],rfl⟩,rfl⟩⟩
   ·rcases ai g2 with TO | ⟨g3,rfl⟩
    ·rcases ai g1 with yp | ⟨g4,_⟩
     ·exact (h.g.obj i gg r yp TO).mono ext (fun _ _=>rfl) (fun _ _ _ hi=>hi)
     ·have:=aT TO
      rw [h.g.len] at this
      omega
    ·rcases ai g1 with yp | ⟨g4,rfl⟩
     ·have:=aT yp
      rw [g3,h.g.len] at this
      omega
     ·cases r <;> first | exact o1 | exact o1.elim
   ·rcases ai g1 with yp | ⟨g3,e1⟩
    ·rcases ai g2 with TO | ⟨g4,e2⟩
     ·exact h.g.inj i j ri rj b yp TO b1 b2
     ·rw [e2] at b2
      exact absurd ⟨i,ri,yp,b1⟩ (o2 b b2).1
    ·rcases ai g2 with TO | ⟨g4,e2⟩
     ·rw [e1] at b1
      exact absurd ⟨j,rj,TO,b2⟩ (o2 b b1).1
     ·omega
   ·rcases iW hl with hl | hl
    ·exact hl
    ·exact absurd rfl ((o2 _ hl).2 k cs hk)
   ·by_cases e:t=i
    ·subst e
     rw [ax]
     exact ⟨c,hc,dh⟩
    ·rw [aI e] at hi ⊢
     obtain ⟨c',l1,l2⟩:=h.t i hi
     exact ⟨c',l1,l2.mono ext⟩
  ·cases hs
 ·cases hs
theorem zP {R0 R1 R2 R3:af} {w w2:World} {β β2:Nat→Nat} {bx0:cp} {s1 s2 s3 s4:St} {a a2:Act} {tm:bI} {v:tm.ps.T} {t:Tmp} {sz n:Nat} {e:TypeId} {c:Value} {ro:RO}
  (h1:aQ E R1 w β s1 a) (hn:R0.obj.length=s1.G.length) (hx:aB s1 s3) (hE:Ext R1 w R3 w2) (st:Step R0 w β bx0 R2 w2 β2 s2.boxes) (h3:aQ E R3 w2 β2 s3 a2) (M1:Step R2 w2 β2 s2.boxes R3 w2 β2 s3.boxes)
  (hc:a2.tmps[t]?=some c) (ho:pM R3 w2 β2 s3.boxes c n sz e ro) (hl:∀ b,ro.has b→Live R2 b) (hd:tm.dec s1 s3=some v) (hr:tS (tm.st s1 v) t sz e=some s4) :
  ∃ R4,aQ E R4 w2 β2 s4 a2∧Step R0 w β bx0 R4 w2 β2 s4.boxes∧Ext R1 w R4 w2∧s4.ro=(tm.st s1 v).ro∧aB (tm.st s1 v) s4:=by
 obtain ⟨q1,q2,q3⟩:=bI.QP hx h1 h3 hE hd
 obtain ⟨p1,p2,p3,p4⟩:=Ia q1 hr hc (ho.mono rfl (fun b hb=>nS hb) q3)
 have ext:Ext (R3.cut s1.G.length) w2 ((R3.cut s1.G.length).add ro) w2:=⟨fun _ _ h=>h,fun _ _ _=>rfl,fun _ r hr=>⟨r,bq hr,bQ.refl r⟩,dU.refl w2⟩
 have Fl:=st.trans M1
 refine ⟨_,p1,⟨⟨Fl.ext.I,Fl.ext.cell,fun id r aX=>?_,Fl.ext.lp⟩,st.os,st.tape,st.output,st.size,st.bY,fun b hb EL=>?_,fun b o hi hb nu=>Fl.im b o hi hb nu⟩,q2.trans ext,p3,p4⟩
 ·obtain ⟨r',g1,g2⟩:=Fl.ext.obj id r aX
  have:=aT aX
  exact ⟨r',bq (ij.2 ⟨by omega,g1⟩),g2⟩
 ·have EQ:b < w2.heap.size:=Nat.lt_of_lt_of_le hb st.size
  rcases EL with EL | ⟨k,cs,hk,rfl⟩
  ·rcases iW EL with EL | EL
   ·exact Fl.own b hb (.inl (nS EL))
   ·exact st.own b hb (.inl (hl b EL))
  ·rw [p2] at hk
   obtain ⟨dJ,gm⟩:=q3 k cs hk
   exact Fl.own _ hb (.inr ⟨k,dJ,gm,rfl⟩)
end
end Go.Am
