/- The abstract machine: ranges over functions. -/
import Derived.Test.YtegoimldbgdeiaaGreatAmKJ
import Derived.RangeFuncIn
import Derived.RangeFuncRecord
import Derived.RangeFuncNested
set_option linter.all false
open Bool renaming and_eq_true→aal
open Go.Deferred renaming ofValue→aaV
open Go.Fence renaming wide→aas
open Go.LoopState renaming busy→aa0
open List renaming length_append→aax, getElem?_eq_getElem→aaM, length_nil→aaN, nodup_nil→aaR, mem_cons_of_mem→aaS
open Nat renaming beq→aao, eq_of_beq_eq_true→aap, ble→aaq, min→aav, ble_eq_true_of_le→aaI, not_lt_zero→aaK, le_refl→aaQ, lt_or_ge→aaT
open Option renaming isSome_iff_exists→aaL
open Option.some renaming inj→aaO
namespace Go.Am
open Go
def gA:bo→bo
 |[]=>[]
 |.put d (.lp _ _) :: l=>.put d .none :: gA l
 |.put d x :: l=>.put d x :: gA l
 |.kill _ :: l=>gA l
def SV.B3:SV→SV
 |.lp _ _=>.none
 |x=>x
theorem sB (t:Nat):∀ l:bo,lk (gA l) t=(lk l t).B3
 |[]=>rfl
 |.put d x :: l=>by
  cases x <;> simp only [gA] <;> by_cases e:d=t <;> first | (subst e; rw [aD,aD]; rfl) | (rw [aT e,aT e]; exact sB t l)
 |.kill d :: l=>by
  simp only [gA,lk];rw [sB t l];cases lk l t with
  |lp k off=>
   by_cases e:k=d
   ·subst e; simp [SV.B3]
   ·simp [pS e,SV.B3]
  |_=>rfl
theorem mm:∀ l:bo,IW (gA l)=true
 |[]=>rfl
 |.put d x :: l=>by
  cases x <;> simp only [gA,IW] <;> exact mm l
 |.kill d :: l=>by simp only [gA]; exact mm l
def rfQ (E:Env) (Q:Exit→St→Prop) (s:St) (G':List GO):Prop:=
 match nth G' (s.G.length+1) with
 |some (.loop busy pending _ _ _ _ _ _ _ done)=>(busy=false∨done=true) ∧
  match pending with
  |none=>Q .normal ⟨s.ab,s.boxes,ak G' (s.G.length+1) .dead,s.G.length :: s.marks,s.ro,s.n⟩
  |some c=>gl E c Q ⟨s.ab,s.boxes,ak G' (s.G.length+1) .dead,s.G.length :: s.marks,s.ro,s.n⟩
 |_=>False
theorem AR {busy done:Bool} (h:busy=false∨done=true):(if done=true then LoopState.done else if busy=true then aa0 else LoopState.ready)≠aa0:=by
 rcases h with rfl|rfl
 ·cases done <;> simp
 ·simp
theorem gl.rangeFunc {E:Env} {Q:Exit→St→Prop} {s:St} (fp:Nat) {g:Operand} {ps:Array Tmp} {assign body:Code} (ba:s.ro=none) {f:FuncId} {first cap:List AV} (hg:bG E s.ab g=.v (.fn f first cap))
  (h:cZ E f (first++[.yield (s.G.length+1)]++cap) (s.G++[.defers true]++[.loop false none fp (gA s.ab) s.n ps.toList assign body s.G.length false]) (fun _ G'=>rfQ E Q s G')) :
  gl E (.rangeFunc g ps assign body) Q s:=fun R w β a F hr hf=>by
 rw [ba] at hf;have YB:F=aas:=hf;subst YB;refine wpIn_rangeFunc fun fn _=>?_
 have rg:=aV hr g;rw [hg] at rg;have YX:Rel R w (.fn f first cap) (a.eval g):=rg
 -- the block for the deferred calls
 have YG:iE (R.add (.bE w.heap.size)) (w.alloc (.deferred (some []))) (.defers true) (.bE w.heap.size):=heap_alloc_new w _;have h1:=hr.mK (.deferred (some [])) (.defers true) (.bE w.heap.size) (by exact fun _ h=>h) YG;have s1:=dy hr (.deferred (some [])) (.bE w.heap.size) (by exact fun _ h=>h);have eR:(w.alloc (.deferred (some []))).heap.size=w.heap.size+1:=by simp
 generalize hw1:w.alloc (.deferred (some []))=w1 at *;generalize hR1:R.add (.bE w.heap.size)=R1 at *
 -- the loop's record
 let lN:Loop:={ state:=.ready,pending:=none,fn:=fn,tmps:=a.tmps,params:=ps,assign:=assign,body:=body,defers:=w.heap.size }
 have EX:nth R1.obj s.G.length=some (.bE w.heap.size):=by rw [← hR1]; exact gV hr _
 have e2:Ext R1 w1 (R1.add (.bE w1.heap.size)) (w1.alloc (.loop lN)):=iG h1.g.wf _ _;have Uw:iE (R1.add (.bE w1.heap.size)) (w1.alloc (.loop lN)) (.loop false none fp (gA s.ab) s.n ps.toList assign body s.G.length false) (.bE w1.heap.size):=by
  refine ⟨⟨lN,w.heap.size,heap_alloc_new w1 _,rfl,rfl,fun i hi=>?_,hr.n,by simp [lN],rfl,rfl,rfl,e2.bE EX⟩,mm _⟩;rw [sB] at hi ⊢;have cq:lk s.ab i≠.none:=fun e=>hi (by rw [e]; rfl)
  obtain ⟨c,k1,k2⟩:=hr.t i cq;refine ⟨c,k1,?_⟩;cases hx:lk s.ab i with
  |none=>exact absurd hx cq
  |lp k off=>rw [hx] at hi; exact absurd rfl hi
  |v x=>
   rw [hx] at k2;exact Rel.mono (s1.ext.trans e2) (show Rel R w x c from k2)
 have h2:=h1.mK (.loop lN) (.loop false none fp (gA s.ab) s.n ps.toList assign body s.G.length false) (.bE w1.heap.size) (by exact fun _ h=>h) Uw;have s2:=dy h1 (.loop lN) (.bE w1.heap.size) (by exact fun _ h=>h);have Ng:nth (R1.add (.bE w1.heap.size)).obj (s.G.length+1)=some (.bE w1.heap.size):=by
  have:=gV h1 (.bE w1.heap.size);simpa [St.eF] using this
 have st:=s1.trans s2;generalize YY:R1.add (.bE w1.heap.size)=R2 at *;generalize UD:a.eval g=fv at YX;cases YX with
 | @fn _ _ _ vs us q1 q2=>
 refine ⟨w.heap.size+1,[{ target:=.collected w.heap.size,args:=#[] }],w1.alloc (.loop lN),{ target:=.fn (.func f) ⟨us⟩,args:=⟨vs⟩++#[.func (.yield (w.heap.size+1)) #[] #[]] },w1.alloc (.loop lN),f,
  ⟨vs++[.func (.yield (w.heap.size+1)) #[] #[]]++us⟩,w1.alloc (.loop lN),?_,?_,?_,?_,?_,?_⟩
 ·have:aas.round=none:=rfl;rw [this,run_enterLoop_outer,hw1]
 ·simp only [resolve,UD,aaV,Sem.run_pure];simp [Act.eval]
 ·intro f' _;exact trivial
 ·have:=qb (P:=E.P) h.1 (⟨vs++[.func (.yield (w.heap.size+1)) #[] #[]]++us⟩) (w1.alloc (.loop lN));simpa [invoke] using this
 ·intro hc; cases hc
 ·have hG:(s.eF (.defers true)).eF (.loop false none fp (gA s.ab) s.n ps.toList assign body s.G.length false)=s.bq (s.G++[.defers true]++[.loop false none fp (gA s.ab) s.n ps.toList assign body s.G.length false]):=rfl;have hyl:Rel R2 (w1.alloc (.loop lN)) (.yield (s.G.length+1)) (.func (.yield (w.heap.size+1)) #[] #[]):=by
   rw [← eR];exact .yield Ng
  refine (h.2 R2 (w1.alloc (.loop lN)) _ h2.g ((((q1.mono st.ext).append (.one hyl)).append (q2.mono st.ext)))).mono ?_;intro e w3 he;cases e with
  |panicked c=>exact he.elim
  |outgrown=>exact he.elim
  |returned c=>
   obtain ⟨r,G',R3,hQ,dJ,hg3,P5⟩:=he;obtain ⟨p1,p2⟩:=h2.sq hg3 P5;unfold rfQ at hQ;split at hQ
   ·rename_i busy pending ff sl nn pp tR bd dd done wN;obtain ⟨hbd,hQ⟩:=hQ;have Nh:nth R3.obj (s.G.length+1)=some (.bE w1.heap.size):=P5.ext.bE Ng;obtain ⟨⟨r3,db,l1,l2,l3,_,_,_,_,_,_,_⟩,_⟩:=p1.g.obj _ _ _ wN Nh;have H9:r3.state≠.busy:=by rw [l2]; exact AR hbd
    have l1':w3.heap[w.heap.size+1]?=some (.loop r3):=by rw [← eR]; exact l1
    refine ⟨r3.pending,_,run_endLoop l1' H9,?_⟩;rw [l3]
    -- the record is dead
    have YZ:nth R3.obj s.G.length=some (.bE w.heap.size):=P5.ext.bE (by rw [← YY] at e2 ⊢; exact e2.bE EX);have key:∀ x:Obj,pY x→(∀ r,Obj.loop r3=.loop r→∃ r',x=.loop r'∧qU r r')→aY E R3 (World.put w3 w1.heap.size x) β ⟨s.ab,s.boxes,ak G' (s.G.length+1) .dead,s.G.length :: s.marks,s.ro,s.n⟩ { a with defers:=[{ target:=.collected w.heap.size,args:=#[] }]++a.defers }∧Step R w β s.boxes R3 (World.put w3 w1.heap.size x) β s.boxes:=fun x hx hlx=>by
     obtain ⟨z1,z2⟩:=p1.setObj (x':=x) (go':=.dead) Nh l1 trivial hx hlx (show w1.heap.size < _ by simp [World.put]; exact bz l1);exact ⟨⟨z1.g,z1.b,z1.t,z1.n,⟨⟨w.heap.size,YZ,rfl⟩,z1.d⟩⟩,(st.trans p2).trans z2⟩
    obtain ⟨z1,z2⟩:=key (.loop { r3 with state:=.exhausted,pending:=pending }) trivial (fun r e=>⟨_,rfl,by cases e; exact ⟨rfl,rfl,rfl,rfl,rfl⟩⟩);rw [eR] at z1 z2;cases pending with
    |none=>exact ⟨_,R3,β,hQ,z1,z2,rfl⟩
    |some c=>
     refine wpIn_mono (hQ R3 _ β _ aas z1 (by show cm R3 s.ro aas; rw [ba]; rfl)) ?_;rintro e a'' Pq ⟨DF,Mf,SI,MT,Aa,s6,xD⟩;exact ⟨DF,Mf,SI,MT,Aa,z2.trans s6,xD⟩
   ·exact hQ.elim
def UU (E:Env) (Q:Exit→St→Prop) (s:St) (G':List GO):Prop:=
 match nth G' s.G.length with
 |some (.loop busy pending _ _ _ _ _ _ _ done)=>(busy=false∨done=true) ∧
  match pending with
  |none=>Q .normal ⟨s.ab,s.boxes,ak G' s.G.length .dead,s.marks,s.ro,s.n⟩
  |some c=>gl E c Q ⟨s.ab,s.boxes,ak G' s.G.length .dead,s.marks,s.ro,s.n⟩
 |_=>False
theorem gl.Ia {E:Env} {Q:Exit→St→Prop} {s:St} (fp:Nat) {g:Operand} {ps:Array Tmp} {assign body:Code} {id:Nat} (ba:s.ro=some id)
  {bu0:Bool} {p0:Option Code} {fn0:FuncId} {sl0:bo} {n0:Nat} {ps0:List Tmp} {as0 bd0:Code} {d0:Nat} {dn0:Bool} (hid:nth s.G id=some (.loop bu0 p0 fn0 sl0 n0 ps0 as0 bd0 d0 dn0))
  {f:FuncId} {first cap:List AV} (hg:bG E s.ab g=.v (.fn f first cap))
  (h:cZ E f (first++[.yield s.G.length]++cap) (s.G++[.loop false none fp (gA s.ab) s.n ps.toList assign body d0 false]) (fun _ G'=>UU E Q s G')) :
  gl E (.rangeFunc g ps assign body) Q s:=fun R w β a F hr hf=>by
 rw [ba] at hf;obtain ⟨b0,hb0,hF⟩:=hf;subst hF;obtain ⟨⟨r0,db0,x1,x2,x3,x4,x5,x6,x7,x8,x9,x10⟩,SX⟩:=hr.g.obj _ _ _ hid hb0;refine wpIn_rangeFunc fun fn _=>?_
 have rg:=aV hr g;rw [hg] at rg;have YX:Rel R w (.fn f first cap) (a.eval g):=rg
 -- the loop's record
 let lN:Loop:={ state:=.ready,pending:=none,fn:=fn,tmps:=a.tmps,params:=ps,assign:=assign,body:=body,defers:=r0.defers }
 have e2:Ext R w (R.add (.bE w.heap.size)) (w.alloc (.loop lN)):=iG hr.g.wf _ _;have Uw:iE (R.add (.bE w.heap.size)) (w.alloc (.loop lN)) (.loop false none fp (gA s.ab) s.n ps.toList assign body d0 false) (.bE w.heap.size):=by
  refine ⟨⟨lN,db0,heap_alloc_new w _,rfl,rfl,fun i hi=>?_,hr.n,by simp [lN],rfl,rfl,x9,e2.bE x10⟩,mm _⟩;rw [sB] at hi ⊢;have cq:lk s.ab i≠.none:=fun e=>hi (by rw [e]; rfl)
  obtain ⟨c,k1,k2⟩:=hr.t i cq;refine ⟨c,k1,?_⟩;cases hx:lk s.ab i with
  |none=>exact absurd hx cq
  |lp k off=>rw [hx] at hi; exact absurd rfl hi
  |v x=>
   rw [hx] at k2;exact Rel.mono e2 (show Rel R w x c from k2)
 have h2:=hr.mK (.loop lN) (.loop false none fp (gA s.ab) s.n ps.toList assign body d0 false) (.bE w.heap.size) (by exact fun _ h=>h) Uw;have st:=dy hr (.loop lN) (.bE w.heap.size) (by exact fun _ h=>h);have Ng:nth (R.add (.bE w.heap.size)).obj s.G.length=some (.bE w.heap.size):=gV hr _;generalize YY:R.add (.bE w.heap.size)=R2 at *;generalize UD:a.eval g=fv at YX;cases YX with
 | @fn _ _ _ vs us q1 q2=>
 refine ⟨w.heap.size,[],w.alloc (.loop lN),{ target:=.fn (.func f) ⟨us⟩,args:=⟨vs⟩++#[.func (.yield w.heap.size) #[] #[]] },w.alloc (.loop lN),f,
  ⟨vs++[.func (.yield w.heap.size) #[] #[]]++us⟩,w.alloc (.loop lN),?_,?_,?_,?_,?_,?_⟩
 ·have:(aas.inRound b0).round=some b0:=rfl;rw [this];exact run_enterLoop_inner x1 _ _ _ _ _
 ·simp only [resolve,UD,aaV,Sem.run_pure];simp [Act.eval]
 ·intro f' _;exact trivial
 ·have:=qb (P:=E.P) h.1 (⟨vs++[.func (.yield w.heap.size) #[] #[]]++us⟩) (w.alloc (.loop lN));simpa [invoke] using this
 ·intro hc; cases hc
 ·have hyl:Rel R2 (w.alloc (.loop lN)) (.yield s.G.length) (.func (.yield w.heap.size) #[] #[]):=.yield Ng;have CP:=(h.2 R2 (w.alloc (.loop lN)) _ h2.g ((((q1.mono st.ext).append (.one hyl)).append (q2.mono st.ext))));refine CallsIn.mono (F:=aas.inRound b0) CP ?_;intro e w3 he;cases e with
  |panicked c=>exact he.elim
  |outgrown=>exact he.elim
  |returned c=>
   obtain ⟨r,G',R3,hQ,dJ,hg3,P5⟩:=he;obtain ⟨p1,p2⟩:=h2.sq hg3 P5;unfold UU at hQ;split at hQ
   ·rename_i busy pending ff sl nn pp tR bd dd done wN;obtain ⟨hbd,hQ⟩:=hQ;have Nh:nth R3.obj s.G.length=some (.bE w.heap.size):=P5.ext.bE Ng;obtain ⟨⟨r3,db,l1,l2,l3,_,_,_,_,_,_,_⟩,_⟩:=p1.g.obj _ _ _ wN Nh;have H9:r3.state≠.busy:=by rw [l2]; exact AR hbd
    refine ⟨r3.pending,_,run_endLoop l1 H9,?_⟩;rw [l3];have key:∀ x:Obj,pY x→(∀ r,Obj.loop r3=.loop r→∃ r',x=.loop r'∧qU r r')→aY E R3 (World.put w3 w.heap.size x) β ⟨s.ab,s.boxes,ak G' s.G.length .dead,s.marks,s.ro,s.n⟩ { a with defers:=[]++a.defers }∧Step R w β s.boxes R3 (World.put w3 w.heap.size x) β s.boxes:=fun x hx hlx=>by
     obtain ⟨z1,z2⟩:=p1.setObj (x':=x) (go':=.dead) Nh l1 trivial hx hlx (show w.heap.size < _ by simp [World.put]; exact bz l1);exact ⟨⟨z1.g,z1.b,z1.t,z1.n,z1.d⟩,(st.trans p2).trans z2⟩
    obtain ⟨z1,z2⟩:=key (.loop { r3 with state:=.exhausted,pending:=pending }) trivial (fun r e=>⟨_,rfl,by cases e; exact ⟨rfl,rfl,rfl,rfl,rfl⟩⟩);cases pending with
    |none=>exact ⟨_,R3,β,hQ,z1,z2,rfl⟩
    |some c=>
     refine wpIn_mono (hQ R3 _ β _ (aas.inRound b0) z1 (by show cm R3 s.ro _; rw [ba]; exact ⟨b0,P5.ext.bE (e2.bE hb0),rfl⟩)) ?_;rintro e a'' Pq ⟨DF,Mf,SI,MT,Aa,s6,xD⟩;exact ⟨DF,Mf,SI,MT,Aa,z2.trans s6,xD⟩
   ·exact hQ.elim
def Ib (id:Nat) (Q:Bool→List GO→Prop):Exit→St→Prop:=fun e s=>match nth s.G id with
 |some (.loop _ _ fn sl n ps tR bd d _)=>match e with
  |.normal=>Q true (ak s.G id (.loop false none fn sl n ps tR bd d false))
  |.ret=>Q false (ak s.G id (.loop false (some .ret) fn sl n ps tR bd d true))
  |.exit i=>Q false (ak s.G id (.loop false (some (.exit i)) fn sl n ps tR bd d true))
  |_=>False
 |_=>False
def D3 (E:Env) (id:Nat) (body:Code) (Q:Bool→List GO→Prop):Exit→St→Prop:=fun e s=>match e with
 |.normal=>match nth s.G id with
  |some (.loop false p fn sl n ps tR bd d false)=>gl E body (Ib id Q) (s.bq (ak s.G id (.loop true p fn sl n ps tR bd d false)))
  |_=>False
 |_=>False
def AS:List Tmp→List AV→bo→bo
 |t :: ts,a :: l,r=>AS ts l (.put t (.v a) :: r)
 |_,_,r=>r
def St.round (id:Nat) (ab:bo) (n:Nat) (G:List GO):St:=⟨ab,[],G,[],some id,n⟩
theorem AT {R:ai} {w:World} {β:Nat→Nat}:∀ {ts:List Tmp} {l:List AV} {cs:List Value} {r:bo} {tmps:Array Value},qW R w β r tmps→aL R w l cs→l.length=ts.length→(∀ t∈ts,t < tmps.size) →
  qW R w β (AS ts l r) ((ts.zip cs).foldl (fun tmps (t,a)=>tmps.setIfInBounds t a) tmps)
 |[],[],_,_,_,h,.nil,_,_=>h
 |t :: ts,a :: l,c :: cs,r,tmps,h,.cons hx hl,hlen,ht=>by
  have eR:t < tmps.size:=ht t (by simp);simp only [AS,List.zip_cons_cons,List.foldl_cons];refine AT ?_ hl (by simpa using hlen) (fun t' h'=>by simpa using ht t' (by simp [h']));have:=qW.put (a:={ tmps:=tmps,defers:=[] }) h (d:=t) (x:=.v a) (c:=c) eR hx;simpa [Act.put] using this
 |[],_ :: _,_,_,_,_,_,hlen,_=>by simp at hlen
 |_ :: _,[],_,_,_,_,_,hlen,_=>by simp at hlen
theorem Ic (l:List (Tmp × Value)):∀ tmps:Array Value,(l.foldl (fun (tmps:Array Value) (x:Tmp × Value)=>tmps.setIfInBounds x.1 x.2) tmps).size=tmps.size:=by
 induction l with
 |nil=>intro _; rfl
 |cons x l ih=>intro tmps; rw [List.foldl_cons,ih]; simp
theorem mR.intro {E:Env} {id:Nat} {args:List AV} {G:List GO} {Q:Bool→List GO→Prop} {fn:FuncId} {ab:bo} {n:Nat} {ps:List Tmp} {assign body:Code} {d:Nat} {p:Option Code}
  (hG:nth G id=some (.loop false p fn ab n ps assign body d false)) (hl:args.length=ps.length) (LS:∀ t∈ps,t < n)
  (h:gl E assign (D3 E id body Q) (St.round id (AS ps args ab) n G)):mR E id args G Q:=fun R w cs b hg hr hb=>by
 obtain ⟨⟨r,db,l1,l2,l3,l4,l5,l6,l7,l8,l9,l10⟩,l11⟩:=hg.obj id _ _ hG hb;have hlen:=hr.length;refine ⟨r,l1,by rw [l6]; simp; omega,?_⟩;have acA:Step R w (fun _=>0) gW R w (fun _=>0) gW:=Step.refl _ _ _ _;have acB:aY E R w (fun _=>0) (St.round id (AS ps args ab) n G) { tmps:=(r.params.zip ⟨cs⟩).foldl (fun tmps (t,a)=>tmps.setIfInBounds t a) r.tmps,defers:=[] }:=by
  have Y0:(r.params.zip ⟨cs⟩).foldl (fun (tmps:Array Value) (x:Tmp × Value)=>tmps.setIfInBounds x.1 x.2) r.tmps=(ps.zip cs).foldl (fun (tmps:Array Value) (x:Tmp × Value)=>tmps.setIfInBounds x.1 x.2) r.tmps:=by
   rw [← Array.foldl_toList];simp [l6]
  refine ⟨hg,⟨fun k cs hk=>?_,fun k k' c c' hk=>?_⟩,?_,?_,trivial⟩
  ·simp [St.round,dR] at hk
  ·simp [St.round,dR] at hk
  ·show qW _ _ _ _ _;have:=AT (ts:=ps) (l:=args) (cs:=cs) l4 hr hl (fun t ht=>by rw [l5]; exact LS t ht);rw [← Y0] at this;exact this
  ·show _=n;have:=Ic (ps.zip cs) r.tmps;rw [← Y0] at this;exact this.trans l5
 have MR:∀ (k:Nat) (cs:List AV),dR (St.round id (AS ps args ab) n G).boxes k≠some cs:=fun k cs hk=>by simp [St.round,dR] at hk
 rw [l7,l8];refine roundIn_of_wpIn trivial (wpIn_mono (h R w (fun _=>0) _ (aas.inRound b) acB ⟨b,hb,rfl⟩) ?_);rintro e a1 w1 ⟨s1,R1,β1,hq,GH,st1,acC⟩;unfold D3 at hq;cases e with
 |normal=>
  simp only at hq;split at hq
  ·rename_i p' fn' XG n' YU P4 XJ d' hG1;have UF:nth R1.obj id=some (.bE b):=st1.ext.bE hb;obtain ⟨⟨r1,db1,m1,m2,m3,m4,m5,m6,m7,m8,m9,m10⟩,m11⟩:=GH.g.obj id _ _ hG1 UF;refine ⟨_,run_beginRound m1 m2,?_⟩;obtain ⟨z1,z2⟩:=GH.setObj (x':=.loop { r1 with state:=.busy }) (go':=.loop true p' fn' XG n' YU P4 XJ d' false) UF m1 trivial trivial (fun r e=>⟨_,rfl,by cases e; exact ⟨rfl,rfl,rfl,rfl,rfl⟩⟩)
    ⟨⟨{ r1 with state:=.busy },db1,ja _ _ _ (bz m1),rfl,m3,m4.mono (pZ (x':=.loop { r1 with state:=.busy }) m1 trivial trivial (fun r e=>⟨_,rfl,by cases e; exact ⟨rfl,rfl,rfl,rfl,rfl⟩⟩)),m5,m6,m7,m8,m9,m10⟩,m11⟩
   refine wpIn_mono (hq R1 _ β1 a1 (aas.inRound b) z1 (by show cm R1 s1.ro _; rw [acC]; exact ⟨b,UF,rfl⟩)) ?_;rintro e2 a2 w2 ⟨s2,R2,β2,qK,zQ,st2,D4⟩;unfold Ib at qK;split at qK
   ·rename_i bu2 p2 fn2 Y1 n2 ps2 as2 bd2 d2 dn2 YM;have Y2:=(st1.trans z2).trans st2;have Jj:nth R2.obj id=some (.bE b):=Y2.ext.bE hb;obtain ⟨⟨r2,db2,o1,o2,o3,o4,o5,o6,o7,o8,o9,K6⟩,mX⟩:=zQ.g.obj id _ _ YM Jj;have fin:∀ (j:Option Code),DN E R w (fun b' G'=>G'=ak s2.G id (.loop false j fn2 Y1 n2 ps2 as2 bd2 d2 (!j.isNone))∧b'=j.isNone) (.returned (.bool j.isNone)) (w2.putObj b (.loop { r2 with state:=if j.isNone then .ready else .done,pending:=j })):=fun j=>by
     obtain ⟨y1,y2⟩:=zQ.setObj (x':=.loop { r2 with state:=if j.isNone then .ready else .done,pending:=j }) (go':=.loop false j fn2 Y1 n2 ps2 as2 bd2 d2 (!j.isNone)) Jj o1 trivial trivial (fun r e=>⟨_,rfl,by cases e; exact ⟨rfl,rfl,rfl,rfl,rfl⟩⟩)
      ⟨⟨{ r2 with state:=if j.isNone then .ready else .done,pending:=j },db2,ja _ _ _ (bz o1),by cases j <;> rfl,rfl,o4.mono (pZ (x':=.loop { r2 with state:=if j.isNone then .ready else .done,pending:=j }) o1 trivial trivial (fun r e=>⟨_,rfl,by cases e; exact ⟨rfl,rfl,rfl,rfl,rfl⟩⟩)),o5,o6,o7,o8,o9,K6⟩,mX⟩
     exact ⟨_,_,R2,⟨rfl,rfl⟩,rfl,y1.g,Ae (Y2.trans y2) MR⟩
    have mk:∀ (j:Option Code),Q j.isNone (ak s2.G id (.loop false j fn2 Y1 n2 ps2 as2 bd2 d2 (!j.isNone)))→∃ v w',(Instr.endRound b j).run E.P w2=.ok v w'∧DN E R w Q (.returned v) w':=fun j hQ=>by
     refine ⟨_,_,run_endRound j o1,?_⟩;obtain ⟨r',G',R',⟨h1,h2⟩,h3⟩:=fin j;subst h1; subst h2;exact ⟨_,_,R',hQ,h3⟩
    cases e2 with
    |normal=>exact mk none qK
    |ret=>exact mk (some .ret) qK
    |exit i=>exact mk (some (.exit i)) qK
    |_=>exact qK.elim
   ·exact qK.elim
  ·exact hq.elim
 |_=>exact hq.elim
end Go.Am
namespace Go.Am
open Go
section
variable {E:Env} {R R':ai} {w w':World} {β β':Nat→Nat} {s s':St} {a a':Act}
def bJ (E:Env) (g:FuncId) (args:List AV) (Q:AV→Prop):Prop:=∀ G,cZ E g args G (fun r G'=>G'=G∧Q r)
theorem bJ.mono {g:FuncId} {args:List AV} {Q Q':AV→Prop} (h:bJ E g args Q) (hq:∀ r,Q r→Q' r):bJ E g args Q':=
 fun G=>(h G).mono fun r _ hh=>⟨hh.1,hq r hh.2⟩
theorem bJ.of {g:FuncId} {args:List AV} {p:aP} {Q:p.T→Prop} (hc:aO 0 args=true) (hp:p.under 0=true)
  (h:cZ E g args [] (fun r _=>∃ y,p.dec r=some y∧Q y)):bJ E g args (fun r=>∃ y,r=p.enc y∧Q y):=fun G=>by
 refine ⟨h.1,fun R w cs hg hl=>?_⟩
 let R0:ai:=⟨R.I,[]⟩
 have m0:Mv R R0 0:=⟨fun _ _ h=>h,fun _ _ h=>absurd h (aaK _)⟩;have XA:eY E R0 w []:=⟨rfl,fun id go ro h1 _=>by simp [nth] at h1,fun i j ri rj b h1=>by simp [R0,nth] at h1,hg.wf,fun g cs wv=>(hg.dF g cs wv).move m0 (df _ (E.Dm g cs wv)),hg.lo⟩;have wj:aL R0 w args cs:=hl.move m0 hc;refine (h.2 R0 w cs XA wj).mono fun e w' he=>?_
 cases e with
 |panicked c=>exact he.elim
 |outgrown=>exact he.elim
 |returned c=>
  obtain ⟨r,G',R1,⟨y,hy,hQ⟩,dJ,LZ,st⟩:=he;have mN:∀ b,¬ Own R0 (fun _=>0) gW b:=fun b ho=>by
   obtain ⟨id,ro,h1,_⟩:=gL ho;simp [R0,nth] at h1
  let R2:ai:=⟨R1.I,R.obj⟩
  have e:Ext R w R2 w':=⟨st.ext.I,st.ext.cell,fun id ro h=>⟨ro,h,cj.refl ro⟩,st.ext.lp⟩;have keep:∀ b,b < w.heap.size→w'.heap[b]?=w.heap[b]?:=fun b hb=>st.keep b hb (mN b)
  have im:∀ b o,b < w.heap.size→R1.I b o→R.I b o:=fun b o hb hi=>st.im b o hi hb (mN b)
  have hd:=p.tG hy;have m:Mv R1 R2 0:=⟨fun _ _ h=>h,fun _ _ h=>absurd h (aaK _)⟩;refine ⟨p.enc y,G,R2,⟨rfl,y,rfl,hQ⟩,Rel.move m (p.eg y hp) (hd.hJ _ _ _ dJ),⟨hg.len,fun id go ro h1 h2=>?_,hg.inj,LZ.wf,fun g cs wv=>(hg.dF g cs wv).mono e,LZ.lo⟩,⟨e,st.os,st.tape,st.output,st.size,fun b hb _=>keep b hb,fun b _ ho=>?_,fun b o hi hb _=>im b o hb hi⟩⟩
  ·refine (hg.obj id go ro h1 h2).mono e (fun b hb=>keep b ?_) (fun b o hb hi=>im b o ?_ hi)
   ·exact (hg.obj id go ro h1 h2).lt hb
   ·exact (hg.obj id go ro h1 h2).lt hb
  ·exact ho
theorem gl.acH {c:Code} {Q Q':Exit→St→Prop} (h:gl E c (fun e s'=>aK s s'∧Q' e s') s)
  (hq:∀ e s',Q' e s'→∃ (t:ca) (v:t.ps.T),t.dec s s'=some v∧Q e (t.st s v)):gl E c Q s:=fun R w β a F hr hf=>by
 refine wpIn_mono (h R w β a F hr hf) ?_;rintro e a' w' ⟨s',R',β',⟨hx,YE⟩,ky,iP,ba⟩;obtain ⟨t,v,hd,hQ⟩:=hq e s' YE;obtain ⟨h1,h2⟩:=ca.EF hx hr ky iP hd;exact ⟨_,_,β',hQ,h1,h2,rfl⟩
theorem gl.ij {c:Code} {Q:Exit→St→Prop} {l:List (Loc × Nat × TypeId)} (hs:Am.ij l s=some s') (h:gl E c Q s'):gl E c Q s:=fun R w β a F hr hf=>by
 obtain ⟨R1,k1,k2,k3,_⟩:=kE hr hs;refine wpIn_mono (h R1 w β a F k1 (by rw [k3]; exact hf.mono k2.ext)) ?_;rintro e a' w' ⟨s2,R2,β2,hq,zQ,st2,D4⟩;exact ⟨s2,R2,β2,hq,zQ,k2.trans st2,D4.trans k3⟩
end
end Go.Am
namespace Go.Am
open Go
def Ni (s:St) (dst:Option Tmp) (x:SV):Option (Bool × St × St):=match x with
 |.v (.ptr id 0)=>match nth s.G id with
  |some (.iO l pos)=>some (Nat.blt pos l.length,(s.bq (ak s.G id (.iO l (pos+(cQ l pos).2)))).put dst (.v (.bP [.bool true,.int .i64 pos,.int .i32 (cQ l pos).1])),s.put dst (.v (.bP [.bool false])))
  |_=>none
 |_=>none
theorem Ie {s:St} {dst:Option Tmp} {x:SV} {b:Bool} {s1 s2:St} (h:Ni s dst x=some (b,s1,s2)):nY s dst x=some (bif b then s1 else s2):=by
 unfold Ni at h;split at h
 ·split at h
  ·rename_i l pos hg;cases h;simp only [nY,hg];cases Nat.blt pos l.length <;> rfl
  ·cases h
 ·cases h
theorem Ju {e:EK} {k:AV}:∀ {es:List (AV × AV)},du e k es=true→kp e k es=some (fL e k es)
 |[],_=>rfl
 |(k',v) :: l,h=>by
  simp only [du,aal] at h;obtain ⟨b,hb⟩:=aaL.1 h.1;simp only [kp,fL,BE,hb];cases b
  ·simp only [cond_false]; exact Ju h.2
  ·rfl
theorem Nj {e:EK} {k v:AV}:∀ {es:List (AV × AV)},du e k es=true→vX e k v es=some (dS e k v es)
 |[],_=>rfl
 |(k',v') :: l,h=>by
  simp only [du,aal] at h;obtain ⟨b,hb⟩:=aaL.1 h.1;simp only [vX,dS,BE,hb];cases b
  ·simp only [cond_false,Nj h.2]
  ·rfl
mutual
def aP.flat:aP→Bool
 |.int _=>true
 |.bool=>true
 |.str=>true
 |.agg ps=>ps.flat
 |.aX _ _ p=>p.flat
 |_=>false
def aQ.flat:aQ→Bool
 |.nil=>true
 |.cons p ps=>p.flat&&ps.flat
end
theorem FR {α:Type} {f:AV→Bool} {d:AV→α} {g:α→AV} (h:∀ a,f a=true→g (d a)=a):∀ {es:List AV},allFit f es=true→(es.map d).map g=es
 |[],_=>rfl
 |a :: l,hl=>by
  simp only [allFit,aal] at hl;rw [List.map_cons,List.map_cons,h a hl.1,FR h hl.2]
mutual
theorem aP.mY:∀ {p:aP},p.flat=true→∀ {a:AV},p.fits a=true→p.enc (p.bw a)=a
 |.int k,_,a,h=>by
  cases a <;> first | (cases h; done) | skip
  have hk:TM _ _=true:=h;rw [G3 hk]; rfl
 |.bool,_,a,h=>by cases a <;> first | (cases h; done) | rfl
 |.str,_,a,h=>by cases a <;> first | (cases h; done) | rfl
 |.agg ps,hp,a,h=>by
  cases a <;> first | (cases h; done) | skip
  exact congrArg AV.agg (aQ.mY (ps:=ps) hp h)
 |.bP _,hp,_,_=>by cases hp
 |.list _ _,hp,_,_=>by cases hp
 |.own _ _ _,hp,_,_=>by cases hp
 |.aX id sz p,hp,a,h=>by
  cases a <;> first | (cases h; done) | skip
  rename_i k bh es;cases k <;> first | (cases h; done) | skip
  rename_i iU j;simp only [aP.fits,aal] at h;have e1:=aap h.1.1;have e2:=aap h.1.2;subst e1 e2;have hp:p.flat=true:=hp;show AV.list (.aX id j) sz ((es.map p.bw).map p.enc)=_;rw [FR (fun a ha=>aP.mY hp ha) h.2]
 |.oD _,hp,_,_=>by cases hp
 |.two _ _,hp,_,_=>by cases hp
theorem aQ.mY:∀ {ps:aQ},ps.flat=true→∀ {l:List AV},ps.fits l=true→ps.enc (ps.bw l)=l
 |.nil,_,l,h=>by
  cases l with
  |nil=>rfl
  |cons _ _=>cases h
 |.cons p .nil,hp,l,h=>by
  simp only [aQ.flat,aal] at hp;cases l with
  |nil=>cases h
  |cons a l=>
   simp only [aQ.fits,aal] at h;cases l with
   |nil=>exact congrArg (fun x=>[x]) (aP.mY hp.1 h.1)
   |cons _ _=>cases h.2
 |.cons p (.cons q ps),hp,l,h=>by
  rw [aQ.flat,aal] at hp;cases l with
  |nil=>cases h
  |cons a l=>
   rw [aQ.fits,aal] at h;have h1:=aP.mY hp.1 h.1;have h2:=aQ.mY (ps:=.cons q ps) hp.2 h.2;show p.enc (p.bw a) :: (aQ.cons q ps).enc ((aQ.cons q ps).bw l)=a :: l;rw [h1,h2]
end
def yT (E:Env) (s:St) (t:TypeId) (m k:SV):Option (Bool × AV × Bool):=match Ma E s.G t,E.ti t,mapOf s m,k with
 |some p,some i,some es,.v k=>match i.k with
  |.map kt _ (some z)=>match E.ti kt with
   |some j=>if j.ek.plain&&jX j.ek k&&p.flat then
     some (du j.ek k es&&p.fits (cF j.ek k (EO E s.G t z) es),p.enc (p.bw (cF j.ek k (EO E s.G t z) es)),(fL j.ek k es).isSome)
    else none
   |none=>none
  |_=>none
 |_,_,_,_=>none
theorem vd {E:Env} {s:St} {t:TypeId} {m k:SV} {v:AV} {b:Bool} (h:yT E s t m k=some (true,v,b)):nX E s t m k=some (v,b):=by
 unfold yT at h;split at h
 ·rename_i p i es k h1 h2 h3;split at h
  ·rename_i kt et z hk;split at h
   ·rename_i j hj;split at h
    ·rename_i hc;simp only [aal] at hc;injection h with h;injection h with h4 h;injection h with h5 h6;rw [aal] at h4;rw [aP.mY hc.2 h4.2] at h5;have e:kp j.ek k es=some (fL j.ek k es):=Ju h4.1;have sj:(j.ek.plain&&jX j.ek k)=true:=by rw [hc.1.1,hc.1.2]; rfl
     have e0:kV E s t m (.v k)=some ((fL j.ek k es).getD z,(fL j.ek k es).isSome):=by
      simp only [kV,h2,h3,hk,hj,sj,if_true,e];cases fL j.ek k es <;> rfl
     unfold nX;rw [e0];unfold cF at h5;cases hg:fL j.ek k es with
     |none=>
      rw [hg] at h5 h6;subst h5 h6;rfl
     |some v'=>
      rw [hg] at h5 h6;subst h5 h6;rfl
    ·cases h
   ·cases h
  ·cases h
 ·cases h
def yU (E:Env) (s:St) (t:TypeId) (m k x:SV):Option (Bool × St):=match E.ti t,m,k,x with
 |some i,.v (.map id),.v k,.v x=>match i.k,nth s.G id with
  |.map kt _ _,some (.map es)=>match E.ti kt with
   |some j=>if j.ek.plain&&jX j.ek k then some (du j.ek k es,s.bq (ak s.G id (.map (dS j.ek k x es)))) else none
   |none=>none
  |_,_=>none
 |_,_,_,_=>none
theorem vf {E:Env} {s s':St} {t:TypeId} {m k x:SV} (h:yU E s t m k x=some (true,s')):gw E s t m k x=some s':=by
 unfold yU at h;split at h
 ·rename_i i id k x h1;split at h
  ·rename_i kt _ _ es hk hg;split at h
   ·rename_i j hj;split at h
    ·rename_i hc;injection h with h;injection h with h4 h5;simp only [gw,h1,hk,hg,hj,hc,if_true,Nj h4,h5]
    ·cases h
   ·cases h
  ·cases h
 ·cases h
def Nk (E:Env) (s:St) (dst:Option Tmp) (l:List AV) (tys:List TypeId):Option (Bool × St):=match l,tys with
 |[.jV id off sz len _,.str bs],t :: _=>match E.ti t,nth s.G id with
  |some i,some (.row cs el)=>match i.k with
   |.sl _ esz _ _ _=>if aao sz esz&&aao esz 1 then
     some (aaq (off+(bs.take (aav bs.length len)).length) cs.length,
      (s.bq (ak s.G id (.row (bu cs off ((bs.take (aav bs.length len)).map um)) el))).put dst (.v (.int .i64 (aav bs.length len))))
    else none
   |_=>none
  |_,_=>none
 |[.jV id off sz len _,.list _ bh es],t :: _=>match E.ti t,nth s.G id with
  |some i,some (.row cs el)=>match i.k with
   |.sl _ esz _ _ _=>if aao sz esz&&aao bh esz then
     some (aaq (off+(an (es.take (aav es.length len))).length) cs.length,
      (s.bq (ak s.G id (.row (bu cs off (an (es.take (aav es.length len)))) el))).put dst (.v (.int .i64 (aav es.length len))))
    else none
   |_=>none
  |_,_=>none
 |[.de id f off sz len,.list _ bh xs],t :: _=>match E.ti t,nth s.G id with
  |some i,some (.cg es szo el)=>match i.k with
   |.sl _ esz _ _ _=>if aao sz esz&&aao szo sz&&aao bh esz then
     some (decide (f=es.length)&&decide (off+aav xs.length len≤es.length),
      (s.bq (ak s.G id (.cg (bu es off (xs.take (aav xs.length len))) szo el))).put dst (.v (.int .i64 (aav xs.length len))))
    else none
   |_=>none
  |_,_=>none
 |_,_=>none
theorem Ig {E:Env} {s s':St} {dst:Option Tmp} {l:List AV} {tys:List TypeId} (h:Nk E s dst l tys=some (true,s')):cu E s dst .copy l tys=some (true,s'):=by
 unfold Nk at h;split at h
 ·rename_i id off sz len cap bs t ts;split at h
  ·rename_i i cs el hi hid;split at h
   ·rename_i a1 esz a2 a3 a4 hk;split at h
    ·rename_i hc;rw [aal] at hc;injection h with h;injection h with h1 h2;have oI:(aao esz 1&&aaq (off+(bs.take (aav bs.length len)).length) cs.length)=true:=by rw [hc.2,h1]; rfl
     simp only [cu,hi,hk,uo,hid,hc.1,if_true,oI,h2]
    ·cases h
   ·cases h
  ·cases h
 ·rename_i id off sz len cap k bh es t ts;split at h
  ·rename_i i cs el hi hid;split at h
   ·rename_i a1 esz a2 a3 a4 hk;split at h
    ·rename_i hc;rw [aal] at hc;injection h with h;injection h with h1 h2;have e2:(aao bh esz || es.isEmpty)=true:=by rw [hc.2]; rfl
     simp only [cu,hi,hk,uo,hid,hc.1,if_true,e2,h1,h2]
    ·cases h
   ·cases h
  ·cases h
 ·rename_i id f off sz len k bh xs t ts;split at h
  ·rename_i i es szo el hi hid;split at h
   ·rename_i a1 esz a2 a3 a4 hk;split at h
    ·rename_i hc;rw [aal] at hc;injection h with h;injection h with h1 h2;rw [aal,decide_eq_true_eq,decide_eq_true_eq] at h1;obtain ⟨rfl,h1⟩:=h1;have e2:(aao sz esz&&aao szo sz&&(aao bh esz || xs.isEmpty)&&aaq es.length es.length&&aaq es.length es.length&&aaq (off+aav xs.length len) es.length)=true:=by
      rw [hc.1,hc.2];simp only [Bool.true_or,Bool.true_and,aal];exact ⟨⟨aaI (aaQ _),aaI (aaQ _)⟩,aaI h1⟩
     simp only [cu,hi,hk,uo,hid,e2,if_true,h2]
    ·cases h
   ·cases h
  ·cases h
 ·cases h
def yV (s:St) (dst:Option Tmp) (elem esz bk:Nat) (k:LK) (sz:Nat) (es ys:List AV):Option (Bool × St × Bool × St):=
 match k with
 |.nil=>some (ys.isEmpty,s.put dst (.v (.list .nil sz es)),decide ((es.length+ys.length) * bk≤140737488355328),
   (s.bq (s.G++[.tok (es.length+ys.length) esz elem])).put dst (.v (.list (.own s.G.length) esz (es++ys))))
 |.full=>if aao sz esz then some (ys.isEmpty,s.put dst (.v (.list .full sz es)),decide ((es.length+ys.length) * bk≤140737488355328),
   (s.bq (s.G++[.tok (es.length+ys.length) esz elem])).put dst (.v (.list (.own s.G.length) esz (es++ys)))) else none
 |.own id=>match nth s.G id with
  |some (.tok f bh e')=>if aao bh esz&&aao e' elem&&aao sz esz then
    some (false,s,decide (f=es.length)&&decide ((es.length+ys.length) * bk≤140737488355328),
     (s.bq (Mb s.G id ys.length f esz elem)).put dst (.v (.list (.own id) esz (es++ys)))) else none
  |_=>none
 |.aX id j=>match nth s.G id with
  |some (.aX fs bh e')=>if aao bh esz&&aao e' elem&&aao sz esz then
    some (ys.isEmpty,s.put dst (.v (.list (.aX id j) sz es)),Pn fs j es.length&&decide ((es.length+ys.length) * bk≤140737488355328),
     (s.bq (ak s.G id (.aX (Kg fs j (es.length+ys.length)) esz elem))).put dst (.v (.list (.aX id j) esz (es++ys)))) else none
  |_=>none
 |.gQ=>none
def D5 (s:St) (dst:Option Tmp) (elem esz bk id f off sz len:Nat) (ys:List AV):Option (Bool × St × Bool × St):=match nth s.G id with
 |some (.cg es bh e')=>if aao bh esz&&aao e' elem&&aao sz esz then
   some (false,s,decide (f=es.length)&&decide (off=0)&&decide (len=f)&&decide ((es.length+ys.length) * bk≤140737488355328),
    (s.bq (ak s.G id (.cg (es++ys) esz elem))).put dst (.v (.de id (es.length+ys.length) 0 esz (es.length+ys.length)))) else none
 |_=>none
def D6 (E:Env) (s:St) (dst:Option Tmp) (l:List AV) (tys:List TypeId):Option (Bool × St × Bool × St):=match l,tys with
 |[.list k sz es,.list _ bh ys],[t,u]=>match E.ti t with
  |some i=>match i.k with
   |.sl elem esz _ bk (some z)=>
    if aao bh esz&&aao t u&&aaq 1 esz&&aaq 1 bk&&aao z.cells.length esz&&z.aR then
     yV s dst elem esz bk k sz es ys
    else none
   |_=>none
  |none=>none
 |[.de id f off sz len,.list _ bh ys],[t,u]=>match E.ti t with
  |some i=>match i.k with
   |.sl elem esz _ bk (some z)=>
    if aao bh esz&&aao t u&&aaq 1 esz&&aaq 1 bk&&aao z.cells.length esz&&z.aR then D5 s dst elem esz bk id f off sz len ys else none
   |_=>none
  |none=>none
 |[.list k sz es,.str bs],[t,u]=>match E.ti t,E.ti u with
  |some i,some j=>match i.k,j.k with
   |.sl elem esz _ bk (some z),.str=>
    if aao esz 1&&aaq 1 bk&&aao z.cells.length esz&&z.aR then yV s dst elem esz bk k sz es (bs.map um) else none
   |_,_=>none
  |_,_=>none
 |_,_=>none
theorem vg {s s1 s2:St} {dst:Option Tmp} {elem esz bk:Nat} {k:LK} {sz:Nat} {es ys:List AV} {b c:Bool} (h:yV s dst elem esz bk k sz es ys=some (b,s1,c,s2)) (hc:b=false→c=true) :
  ∃ v G',ew s.G elem esz bk (.list k sz es) ys=some (true,v,G')∧(s.bq G').put dst (.v v)=bif b then s1 else s2:=by
 unfold yV at h;cases k with
 |nil=>
  cases h;cases ys with
  |nil=>exact ⟨_,_,rfl,rfl⟩
  |cons y ys=>
   have hc:=hc rfl;exact ⟨_,_,by simp only [ew,hc],rfl⟩
 |full=>
  simp only at h;cases hs:aao sz esz with
  |false=>rw [hs] at h; cases h
  |true=>
   rw [hs] at h;cases h;cases ys with
   |nil=>exact ⟨_,_,rfl,rfl⟩
   |cons y ys=>
    have hc:=hc rfl;exact ⟨_,_,by simp only [ew,hs,if_true,hc],rfl⟩
 |own id=>
  simp only at h;split at h
  ·rename_i f bh e' hg;split at h
   ·rename_i bI;cases h;have hc:=hc rfl;cases ys with
    |nil=>
     simp only [aal] at bI;have e1:=aap bI.1.1;have e2:=aap bI.1.2;have e3:=aap bI.2;subst e1; subst e2; subst e3;refine ⟨_,_,rfl,?_⟩;simp only [cond_false,Mb,aaN,Nat.add_zero,qV hg,List.append_nil]
    |cons y ys=>exact ⟨_,_,by simp only [ew,hg,bI,if_true,hc],rfl⟩
   ·cases h
  ·cases h
 |aX id j=>
  simp only at h;split at h
  ·rename_i fs bh e' hg;split at h
   ·rename_i bI;cases h;cases ys with
    |nil=>exact ⟨_,_,rfl,rfl⟩
    |cons y ys=>
     have hc:=hc rfl;exact ⟨_,_,by simp only [ew,hg,bI,if_true,hc],rfl⟩
   ·cases h
  ·cases h
 |gQ=>cases h
theorem D7 {s s1 s2:St} {dst:Option Tmp} {elem esz bk id f off sz len:Nat} {ys:List AV} {b c:Bool} (h:D5 s dst elem esz bk id f off sz len ys=some (b,s1,c,s2)) (hc:b=false→c=true) :
  ∃ v G',ew s.G elem esz bk (.de id f off sz len) ys=some (true,v,G')∧(s.bq G').put dst (.v v)=bif b then s1 else s2:=by
 unfold D5 at h;split at h
 ·rename_i es bh e' hg;split at h
  ·rename_i bI;cases h;have hc:=hc rfl;cases ys with
   |nil=>
    simp only [aal,decide_eq_true_eq] at hc bI;have e1:=aap bI.1.1;have e2:=aap bI.1.2;have e3:=aap bI.2;obtain ⟨⟨⟨h1,h2⟩,h3⟩,_⟩:=hc;subst e1; subst e2; subst e3; subst h1; subst h2; subst h3;refine ⟨_,_,rfl,?_⟩;simp only [cond_false,aaN,Nat.add_zero,qV hg,List.append_nil]
   |cons y ys=>exact ⟨_,_,by simp only [ew,hg,bI,if_true,hc],rfl⟩
  ·cases h
 ·cases h
theorem D8 {E:Env} {s s1 s2:St} {dst:Option Tmp} {l:List AV} {tys:List TypeId} {b c:Bool} (h:D6 E s dst l tys=some (b,s1,c,s2)) (Cu:b=false→c=true):cu E s dst .append l tys=some (true,bif b then s1 else s2):=by
 unfold D6 at h;split at h
 ·rename_i k sz es k' bh ys t u;split at h
  ·rename_i i hi;split at h
   ·rename_i elem esz a1 bk z hk;split at h
    ·rename_i hc;have sj:((aao bh esz || ys.isEmpty)&&aao t u&&aaq 1 esz&&aaq 1 bk&&aao z.cells.length esz&&z.aR)=true:=by
      simp only [aal] at hc ⊢;obtain ⟨⟨⟨⟨⟨c1,c2⟩,c3⟩,c4⟩,c5⟩,c6⟩:=hc;exact ⟨⟨⟨⟨⟨by rw [c1]; rfl,c2⟩,c3⟩,c4⟩,c5⟩,c6⟩
     obtain ⟨v,G',h1,h2⟩:=vg h Cu;simp only [cu,hi,hk,sj,if_true,h1,h2]
    ·cases h
   ·cases h
  ·cases h
 ·rename_i id f off sz len k' bh ys t u;split at h
  ·rename_i i hi;split at h
   ·rename_i elem esz a1 bk z hk;split at h
    ·rename_i hc;have sj:((aao bh esz || ys.isEmpty)&&aao t u&&aaq 1 esz&&aaq 1 bk&&aao z.cells.length esz&&z.aR)=true:=by
      simp only [aal] at hc ⊢;obtain ⟨⟨⟨⟨⟨c1,c2⟩,c3⟩,c4⟩,c5⟩,c6⟩:=hc;exact ⟨⟨⟨⟨⟨by rw [c1]; rfl,c2⟩,c3⟩,c4⟩,c5⟩,c6⟩
     obtain ⟨v,G',h1,h2⟩:=D7 h Cu;simp only [cu,hi,hk,sj,if_true,h1,h2]
    ·cases h
   ·cases h
  ·cases h
 ·rename_i k sz es bs t u;split at h
  ·rename_i i j hi hj;split at h
   ·rename_i elem esz a1 bk z hk XC;split at h
    ·rename_i hc;obtain ⟨v,G',h1,h2⟩:=vg h Cu;simp only [cu,hi,hj,hk,XC,hc,if_true,h1,h2]
    ·cases h
   ·cases h
  ·cases h
 ·cases h
end Go.Am
namespace Go.Am
open Go
def UW (E:Env) (cut wk:Bool) (t:TypeId) (r:AV) (G:List GO):Option (Bool × AV × List GO):=match r with
 |.de id f 0 sz len=>match nth G id,E.ti t with
  |some (.cg es bh _),some i=>match i.k with
   |.sl _ esz _ _ _=>if aao esz sz&&aao bh sz then
     bif cut then some (decide (f=es.length)&&decide (len≤es.length)&&aF (Cg wk es),.list .gQ sz (Cg wk (es.take len)),ak G id .dead)
     else some (decide (f=es.length)&&decide (len=es.length)&&aF (Cg wk es),.list .gQ sz (Cg wk es),ak G id .dead)
    else none
   |_=>none
  |_,_=>none
 |.jV id 0 sz len _=>match nth G id,E.ti t,E.Pm t with
  |some (.row cs _),some i,some p=>match i.k with
   |.sl _ esz agg _ _=>if aao esz sz&&aaq 1 sz&&(agg || aao sz 1)&&p.under 0 then
     some (aao cs.length (len * sz)&&allFit (fun e=>p.fits e&&e.aR&&(agg || e.one)) (jn agg sz len cs),.list .gQ sz ((jn agg sz len cs).map fun e=>p.enc (p.bw e)),ak G id .dead)
    else none
   |_=>none
  |_,_,_=>none
 |.agg cs=>match oY wk cs G with
  |(c,eZ,G')=>some (c,.agg eZ,G')
 |.ptr id 0=>match nth G id with
  |some (.row cs _)=>some (aF cs,.ep cs,ak G id .dead)
  |_=>none
 |_=>none
def AU (E:Env) (cut wk:Bool):List TypeId→List AV→List GO→Bool × List AV × List GO
 |t :: ts,r :: rs,G=>match UW E cut wk t r G with
  |some (c,r',G')=>match AU E cut wk ts rs G' with
   |(c',Nl,CQ)=>(c&&c',r' :: Nl,CQ)
  |none=>match AU E cut wk ts rs G with
   |(c',Nl,CQ)=>(c',r :: Nl,CQ)
 |_,rs,G=>(true,rs,G)
def UX {X:Type} (E:Env) (cut wk:Bool) (ts:List TypeId) (K:AV→List GO→Option X) (r:AV) (G:List GO):Option X:=match r with
 |.bP rs=>match AU E cut wk ts rs G with
  |(c,Nl,G')=>bif c then K (.bP Nl) G' else none
 |r=>match AU E cut wk ts [r] G with
  |(c,[r'],G')=>bif c then K r' G' else none
  |_=>none
section
variable {E:Env} {R:ai} {w:World}
theorem AW {R:ai} {b:Nat} (hI:∀ o,R.I b o):∀ {cs:List AV} {vs:List Value} {o:Nat},aL R w cs vs→(∀ v∈vs,v.oneCell'=true)→(∀ (j:Nat) (v:Value),vs[j]?=some v→w.cell? ⟨b,o+j,none⟩=some v)→fN R w b o cs
 |[],_,o,_,_,_=>.nil
 |a :: cs,_,o,.cons h t,h1,hc=>.cons (hc 0 _ rfl) (h1 _ (by simp)) (hI o) h (AW hI t (fun v hv=>h1 v (by simp [hv])) fun j v hj=>by
   have:=hc (j+1) v (by simpa using hj);rwa [show o+(j+1)=o+1+j by omega] at this)
theorem AX {R:ai} {b:Nat} {p:aP} {agg:Bool} {sz:Nat} (hI:∀ o,R.I b o) (hp:p.under 0=true) (eR:(agg || aao sz 1)=true) (acI:1≤sz):∀ (n:Nat) {cs:List AV} {vs:List Value} {o:Nat},aL R w cs vs→(∀ v∈vs,v.oneCell'=true)→cs.length=n * sz →
  (∀ (j:Nat) (v:Value),vs[j]?=some v→w.cell? ⟨b,o+j,none⟩=some v)→allFit (fun e=>p.fits e&&e.aR&&(agg || e.one)) (jn agg sz n cs)=true→iW R w b o sz ((jn agg sz n cs).map fun e=>p.enc (p.bw e))
 |0,_,_,_,_,_,_,_,_=>.nil
 |n+1,cs,vs,o,h,h1,hl,hc,hf=>by
  simp only [jn,allFit,aal] at hf;obtain ⟨⟨⟨yk,hf2⟩,hf4⟩,hf3⟩:=hf;have hlen:=h.length;have hle:sz≤cs.length:=by rw [hl,Nat.succ_mul]; omega
  have dk:=p.dE yk;have oJ:(X9 agg (cs.take sz)).cells=cs.take sz:=by
   cases agg with
   |true=>rfl
   |false=>
    have O2:sz=1:=by simpa using eR
    subst O2
    match cs,hle with
    |a :: cs,_=>
     show AV.cells a=[a];have ho:a.one=true:=by simpa [X9,fa] using hf4
     cases a <;> first | rfl | simp [AV.one] at ho
  have hw:=dk.cells hf2;rw [oJ] at hw;have hA:fN R w b o (cs.take sz):=AW hI (h.take sz) (fun v hv=>h1 v (List.mem_of_mem_take hv)) fun j v hj=>hc j v (by
   rw [List.getElem?_take] at hj;split at hj
   ·exact hj
   ·cases hj)
  refine .cons (by rw [← hw.length,List.length_take,Nat.min_eq_left hle]) (by rw [dk.bP]; exact hf2) (oN (p.eg _ hp)) (hw.Mk hA) ?_;exact AX hI hp eR acI n (h.drop sz) (fun v hv=>h1 v (List.mem_of_mem_drop hv)) (by rw [List.length_drop,hl,Nat.succ_mul]; omega) (fun j v hj=>by
   rw [List.getElem?_drop] at hj;have:=hc _ _ hj;rwa [show o+(sz+j)=o+sz+j by omega] at this) hf3
theorem P6 {cut wk:Bool} {t:TypeId} {r r':AV} {G G':List GO} {c:Value} (hg:eY E R w G) (hr:Rel R w r c) (h:UW E cut wk t r G=some (true,r',G')) :
  ∃ R',eY E R' w G'∧Rel R' w r' c∧Ext R w R' w∧R'.obj=R.obj∧∀ b o,R'.I b o→R.I b o∨Live R b:=by
 unfold UW at h;split at h
 ·rename_i id f sz len;obtain ⟨ro,ba⟩:∃ ro,nth R.obj id=some ro:=by
   cases hr with
   |jO q _=>exact ⟨_,q⟩
   |de q _ _=>exact ⟨_,q⟩
  split at h
  ·rename_i es bh el i hid hi;split at h
   ·split at h
    ·rename_i hc;rw [aal] at hc;have q1:=aap hc.2;subst q1;cases cut with
     |true=>
      simp only [cond_true] at h;injection h with h; injection h with h1 h; injection h with h2 h3;subst h2 h3;rw [aal,aal,decide_eq_true_eq,decide_eq_true_eq] at h1;obtain ⟨h1,iz⟩:=h1;obtain ⟨R',r1,r2,r3,r4,r5⟩:=kD (wk:=wk) hg hid h1.1 h1.2 iz ba;exact ⟨R',r1,r5 c hr,r2,r3,fun b o hi=>(r4 b o hi).imp_right fun hb=>⟨id,ro,ba,hb⟩⟩
     |false=>
      simp only [cond_false] at h;injection h with h; injection h with h1 h; injection h with h2 h3;subst h2 h3;rw [aal,aal,decide_eq_true_eq,decide_eq_true_eq] at h1;obtain ⟨h1,iz⟩:=h1;obtain ⟨R',r1,r2,r3,r4,r5⟩:=kD (wk:=wk) hg hid h1.1 (Nat.le_of_eq h1.2) iz ba;have r6:=r5 c hr;rw [h1.2,List.take_length] at r6;exact ⟨R',r1,r6,r2,r3,fun b o hi=>(r4 b o hi).imp_right fun hb=>⟨id,ro,ba,hb⟩⟩
    ·cases h
   ·cases h
  ·cases h
 ·rename_i id sz len cap;split at h
  ·rename_i cs i p hid hi hp;split at h
   ·rename_i el esz agg eb z hk;split at h
    ·rename_i hc;simp only [aal] at hc;injection h with h;injection h with h1 h;injection h with h2 h3;subst h2 h3;rw [aal] at h1;cases hr with
     | @jV _ _ _ _ _ b hb fj=>
     obtain ⟨vs,k1,k2,k3,k4⟩:=hg.obj id _ _ hid hb;have EZ:Live R b:=⟨id,_,hb,rfl⟩;have e:=uO R w b;have bW:=bz k1;refine ⟨R.all b,⟨by show R.obj.length=_; rw [cw]; exact hg.len,fun iU go ro q1 q2=>?_,hg.inj,fun b' o ho=>?_,fun g cs wv=>(hg.dF g cs wv).mono e,hg.lo⟩,?_,e,rfl,fun b' o ho=>?_⟩
     ·rcases b8 q1 with ⟨rfl,rfl,_⟩|⟨cq,q1⟩
      ·have:ro=.bE b:=aaO (q2.symm.trans hb);subst this;exact bW
      ·refine (hg.obj iU go ro q1 q2).mono e (fun _ _=>rfl) (fun b' o kX ho=>?_);rcases ho with ho|ho
       ·exact ho
       ·subst ho;exact absurd (hg.inj id iU _ _ b' hb q2 rfl kX) cq
     ·rcases ho with ho|ho
      ·exact hg.wf b' o ho
      ·subst ho; exact bW
     ·refine Rel.list (AX (R:=R.all b) (fun o=>Or.inr rfl) hc.2 hc.1.2 (Nat.le_of_ble_eq_true hc.1.1.2) len (k2.mono e) k3 (aap h1.1) (fun j v hj=>?_) h1.2) ?_ fj trivial
      ·simp only [World.cell?,k1];simpa using hj
      ·rw [List.length_map];have:∀ (n:Nat) (l:List AV),(jn agg sz n l).length=n:=by
        intro n
        induction n with
        |zero=>intro l; rfl
        |succ n ih=>intro l; simp [jn,ih]
       rw [this]
     ·rcases ho with ho|ho
      ·exact .inl ho
      ·subst ho; exact .inr EZ
    ·cases h
   ·cases h
  ·cases h
 ·rename_i cs;cases h2:oY wk cs G with
  |mk c' q=>
  obtain ⟨eZ,G2⟩:=q;rw [h2] at h;injection h with h; injection h with h1 h; injection h with h3 h4;subst h1 h3 h4;cases hr with
  |agg hr oI=>
  obtain ⟨R',r1,r2,r3,r4,r5⟩:=uR hg hr h2;exact ⟨R',r1,.agg r2 oI,r3,r4,r5⟩
 ·-- an object's cells never change again
  rename_i id;split at h
  ·rename_i cs el hid;injection h with h; injection h with h1 h; injection h with h2 h3;subst h2 h3;cases hr with
   | @ptr _ _ b ba=>
   obtain ⟨vs,b1,b2,b3,b4⟩:=hg.obj id _ _ hid ba;have r2:=uO R w b;have r1:=hg.freeze ba rfl (show iE (R.all b) w .dead (.bE b) from bz b1);refine ⟨R.all b,r1,Rel.ep (fN.make (b2.mono r2) b3 (fun j v hv=>?_) (fun j _=>.inr rfl)),r2,rfl,fun b' o hi=>?_⟩
   ·rw [kY b1,Nat.zero_add];exact hv
   ·rcases hi with hi|rfl
    ·exact .inl hi
    ·exact .inr ⟨id,_,ba,rfl⟩
  ·cases h
 ·cases h
theorem yW {cut wk:Bool}:∀ {ts:List TypeId} {rs Nl:List AV} {G G':List GO} {cs:List Value} {R:ai},eY E R w G→aL R w rs cs→AU E cut wk ts rs G=(true,Nl,G') →
  ∃ R',eY E R' w G'∧aL R' w Nl cs∧Ext R w R' w∧R'.obj=R.obj∧∀ b o,R'.I b o→R.I b o∨Live R b
 |[],rs,Nl,G,G',cs,R,hg,hr,h=>by
  cases rs <;> (simp only [AU] at h; cases h; exact ⟨R,hg,hr,Ext.refl R w,rfl,fun _ _ h=>.inl h⟩)
 |_ :: _,[],Nl,G,G',cs,R,hg,hr,h=>by
  simp only [AU] at h; cases h; exact ⟨R,hg,hr,Ext.refl R w,rfl,fun _ _ h=>.inl h⟩
 |t :: ts,r :: rs,Nl,G,G',cs,R,hg,hr,h=>by
  cases hr with
  |cons h0 hr=>
  unfold AU at h;split at h
  ·rename_i c r' G1 h1;cases h2:AU E cut wk ts rs G1 with
   |mk c' q=>
   obtain ⟨YD,G2⟩:=q;rw [h2] at h;simp only [Prod.mk.injEq,aal] at h;obtain ⟨⟨rfl,rfl⟩,rfl,rfl⟩:=h;obtain ⟨R1,a1,a2,a3,a4,a5⟩:=P6 hg h0 h1;obtain ⟨R2,b1,b2,b3,b4,b5⟩:=yW a1 (hr.mono a3) h2;refine ⟨R2,b1,.cons (a2.mono b3) b2,a3.trans b3,b4.trans a4,fun b o ho=>?_⟩;rcases b5 b o ho with ho|ho
   ·exact a5 b o ho
   ·obtain ⟨id,ro,q1,q2⟩:=ho;rw [a4] at q1;exact .inr ⟨id,ro,q1,q2⟩
  ·cases h2:AU E cut wk ts rs G with
   |mk c' q=>
   obtain ⟨YD,G2⟩:=q;rw [h2] at h;simp only [Prod.mk.injEq] at h;obtain ⟨rfl,rfl,rfl⟩:=h;obtain ⟨R2,b1,b2,b3,b4,b5⟩:=yW hg hr h2;exact ⟨R2,b1,.cons (h0.mono b3) b2,b3,b4,b5⟩
theorem cZ.frz {g:FuncId} {args:List AV} {G:List GO} {X:Type} {cut wk:Bool} {ts:List TypeId} {K:AV→List GO→Option X} {x:X} (h:cZ E g args G (fun r G'=>UX E cut wk ts K r G'=some x)):cZ E g args G (fun r G'=>K r G'=some x):=
 ⟨h.1,fun R w cs hg hl=>(h.2 R w cs hg hl).mono fun e w' he=>by
  cases e with
  |panicked c=>exact he.elim
  |outgrown=>exact he.elim
  |returned c=>
   obtain ⟨r,G',R1,hq,dJ,LZ,st⟩:=he;have fin:∀ (r':AV) (G2:List GO) (R2:ai),K r' G2=some x→eY E R2 w' G2→Rel R2 w' r' c→Ext R1 w' R2 w'→R2.obj=R1.obj→(∀ b o,R2.I b o→R1.I b o∨Live R1 b)→CE E R w (fun r G'=>K r G'=some x) (.returned c) w':=by
    intro r' G2 R2 k1 k2 k3 k4 k5 k6;have live:∀ b,Live R2 b→Live R1 b:=fun b ⟨id,ro,q1,q2⟩=>⟨id,ro,by rw [← k5]; exact q1,q2⟩
    refine ⟨r',G2,R2,k1,k3,k2,⟨st.ext.trans k4,st.os,st.tape,st.output,st.size,st.keep,fun b hb ho=>?_,fun b o hi hb hn=>?_⟩⟩
    ·rcases ho with ho|⟨k,cs,hk,rfl⟩
     ·exact st.own b hb (.inl (live b ho))
     ·simp [gW,dR] at hk
    ·rcases k6 b o hi with hi|hi
     ·exact st.im b o hi hb hn
     ·exact absurd (st.own b hb (.inl hi)) hn
   unfold UX at hq;split at hq
   ·rename_i rs;cases dJ with
    |bP dJ=>
    cases h2:AU E cut wk ts rs G' with
    |mk c' q=>
    obtain ⟨YD,G2⟩:=q;rw [h2] at hq;cases c' with
    |false=>cases hq
    |true=>
     obtain ⟨R2,b1,b2,b3,b4,b5⟩:=yW LZ dJ h2;exact fin (.bP YD) G2 R2 hq b1 (.bP b2) b3 b4 b5
   ·split at hq
    ·rename_i c' r' G2 h2;cases c' with
     |false=>cases hq
     |true=>
      obtain ⟨R2,b1,b2,b3,b4,b5⟩:=yW LZ (.cons dJ .nil) h2;cases b2 with
      |cons b2 _=>exact fin r' G2 R2 hq b1 b2 b3 b4 b5
    ·cases hq⟩
end
end Go.Am
namespace Go.Am
open Go
inductive RP
 |SY (p:aP)
 |map (pe:aP)
 |ep (ps:aQ)
def RP.T:RP→Type
 |.SY p=>p.T
 |.map pe=>List pe.T
 |.ep ps=>ps.T
def RP.enc (n:Nat):(p:RP)→p.T→AV
 |.SY p,x=>p.enc x
 |.map _,_=>.map n
 |.ep ps,x=>.ep (ps.enc x)
def RP.Ih:(p:RP)→p.T→List GO
 |.SY _,_=>[]
 |.map pe,(x:List pe.T)=>[.map (aG (x.map pe.enc))]
 |.ep _,_=>[]
def RP.no:RP→Nat
 |.map _=>1
 |_=>0
def wO:List RP→Type
 |[]=>Unit
 |[p]=>p.T
 |p :: q :: l=>p.T × wO (q :: l)
def rR:(n:Nat)→(l:List RP)→wO l→List AV
 |_,[],_=>[]
 |n,[p],x=>[p.enc n x]
 |n,p :: q :: l,x=>p.enc n x.1 :: rR (n+p.no) (q :: l) x.2
def jj:(l:List RP)→wO l→List GO
 |[],_=>[]
 |[p],x=>p.Ih x
 |p :: q :: l,x=>p.Ih x.1++jj (q :: l) x.2
structure RF where
 bP:Bool
 l:List RP
def RF.val (f:RF) (n:Nat) (x:wO f.l):AV:=bif f.bP then .bP (rR n f.l x) else fa (rR n f.l x)
def RP.is:RP→AV→Bool
 |.SY p,v=>match p with
  |.oD u=>eu v u
  |_=>true
 |.map _,v=>match v with
  |.map _=>true
  |_=>false
 |.ep _,v=>match v with
  |.ep _=>true
  |_=>false
def Nn:List RP→List AV→Bool
 |[],[]=>true
 |p :: l,v :: vs=>p.is v&&Nn l vs
 |_,_=>false
def RF.args (f:RF) (r:AV):List AV:=bif f.bP then r.TN else [r]
def RF.CR (f:RF):AV→Bool
 |.bP _=>f.bP
 |_=>!f.bP
def D9 (G:List GO) (used:List Nat) (pe:aP) (v:AV):Option (List pe.T):=match v with
 |.map id=>match nth G id with
  |some (.map es)=>bif Pb used id then none else (bif allFit pe.fits (af es) then some ((af es).map pe.bw) else none)
  |_=>none
 |_=>none
def Jv (ps:aQ) (v:AV):Option ps.T:=match v with
 |.ep cs=>ps.dec cs
 |_=>none
def RP.dec (G:List GO) (used:List Nat):(p:RP)→AV→Option p.T
 |.SY p,v=>p.dec v
 |.map pe,v=>D9 G used pe v
 |.ep ps,v=>Jv ps v
def wP (used:List Nat):AV→List Nat
 |.map id=>id :: used
 |_=>used
def wQ (G:List GO):(used:List Nat)→(l:List RP)→List AV→Option (wO l)
 |_,[],vs=>match vs with
  |[]=>some ()
  |_=>none
 |u,[p],vs=>match vs with
  |[v]=>p.dec G u v
  |_=>none
 |u,p :: q :: l,vs=>match vs with
  |v :: vs=>(p.dec G u v).bind fun x=>(wQ G (wP u v) (q :: l) vs).bind fun y=>some (x,y)
  |[]=>none
def RF.dec (f:RF) (G:List GO) (r:AV):Option (wO f.l):=bif f.CR r then wQ G [] f.l (f.args r) else none
def RP.under:RP→Bool
 |.SY p=>p.under 0
 |.map pe=>pe.under 0
 |.ep ps=>ps.under 0
def RF.under (f:RF):Bool:=f.l.all RP.under&&(f.bP || aao f.l.length 1)
def XT:List RF→Type
 |[]=>Empty
 |[f]=>wO f.l
 |f :: g :: l=>wO f.l ⊕ XT (g :: l)
def K7 (G:List GO) (r:AV):(l:List RF)→Option (XT l)
 |[]=>none
 |[f]=>f.dec G r
 |f :: g :: l=>bif f.CR r&&Nn f.l (f.args r) then (f.dec G r).bind fun x=>some (.inl x) else (K7 G r (g :: l)).bind fun x=>some (.inr x)
def XL {α:Type} (G:List GO) (K:AV→List GO→α):(l:List RF)→XT l→α
 |[],o=>Empty.rec (fun _=>α) o
 |[f],o=>K (f.val G.length o) (G++jj f.l o)
 |f :: g :: l,o=>Sum.elim (fun v=>K (f.val G.length v) (G++jj f.l v)) (fun o=>XL G K (g :: l) o) o
theorem FT {α:Type} {G:List GO} {K:AV→List GO→α} {r:AV} {G':List GO}:∀ (l:List RF) (o:XT l),XL G (fun r0 G0=>r=r0∧G'=G0) l o→K r G'=XL G K l o
 |[],o,_=>nomatch o
 |[f],o,h=>by
  have h:r=f.val G.length o∧G'=G++jj f.l o:=h;rw [h.1,h.2]; rfl
 |f :: g :: l,.inl v,h=>by
  have h:r=f.val G.length v∧G'=G++jj f.l v:=h;rw [h.1,h.2]; rfl
 |f :: g :: l,.inr o,h=>FT (g :: l) o h
def rS (E:Env) (g:FuncId) (args:List AV) (outs:List RF) (Q:XT outs→Prop):Prop:=
 ∀ G,cZ E g args G (fun r G'=>∃ y,Q y∧XL G (fun r0 G0=>r=r0∧G'=G0) outs y)
section
variable {E:Env} {R R1 R2:ai} {w:World}
theorem eL.SZ (m:Mv R R2 0):∀ {es:List (AV × AV)} {l:List AV} {aH:List MapEntry},lL (af es) l→aO 0 l=true→eL R w es aH→eL R2 w (aG l) aH
 |[],[],[],_,_,_=>trivial
 |[],[],_ :: _,_,_,h=>h.elim
 |[],_ :: _,_,h,_,_=>h.elim
 |(_,_) :: _,[],_,h,_,_=>h.elim
 |(_,_) :: _,_ :: _,[],_,_,h=>h.elim
 |(k,v) :: es,a :: l,en :: aH,hd,hu,h=>by
  obtain ⟨d1,d2⟩:=hd;simp only [aO,aal] at hu;have hc:=d1.cells rfl;have hl:[k,v].length=a.cells.length:=hc.length;cases a with
  |agg cs=>
   match cs,hc,hl with
   |[k',v'],hc,_=>
    have UT:aO 0 [k',v']=true:=hu.1;simp only [aO,Bool.and_true,aal] at UT;exact ⟨(hc.1 _ _ _ h.1).move m UT.1,(hc.2.1 _ _ _ h.2.1).move m UT.2,eL.SZ m d2 hu.2 h.2.2⟩
   |[],_,hl=>simp [AV.cells] at hl
   |[_],_,hl=>simp [AV.cells] at hl
   |_ :: _ :: _ :: _,_,hl=>simp [AV.cells] at hl
  |_=>simp [AV.cells] at hl
theorem aP.AY {p:aP} (h:p.under 0=true):∀ l:List p.T,aO 0 (l.map p.enc)=true
 |[]=>rfl
 |x :: l=>by
  show ((p.enc x).under 0&&aO 0 (l.map p.enc))=true;rw [p.eg x h,aP.AY h l];rfl
def AZ (R:ai) (n:Nat) (bs:List Nat):Prop:=∀ k b,nth bs k=some b→nth R.obj (n+k)=some (.bE b)
def Jw (R:ai) (w:World) (gs:List GO) (bs:List Nat):Prop:=∀ k go b,nth gs k=some go→nth bs k=some b→iE R w go (.bE b)
theorem RP.S0 (p:RP) (x:p.T):(p.Ih x).length=p.no:=by cases p <;> rfl
theorem No {ps:aQ} {v:AV} {y:ps.T} (h:Jv ps v=some y):∃ cs,v=.ep cs∧ps.dec cs=some y:=by
 unfold Jv at h;split at h
 ·exact ⟨_,rfl,h⟩
 ·cases h
theorem K8 {G:List GO} {used:List Nat} {pe:aP} {v:AV} {y:List pe.T} (h:D9 G used pe v=some y):∃ id es,v=.map id∧nth G id=some (.map es)∧id∉used∧lL (af es) (y.map pe.enc):=by
 unfold D9 at h;split at h
 ·rename_i id;split at h
  ·rename_i es BG;cases hu:Pb used id with
   |true=>rw [hu] at h; cases h
   |false=>
    rw [hu,cond_false] at h;cases hf:allFit pe.fits (af es) with
    |false=>rw [hf] at h; cases h
    |true=>
     rw [hf,cond_true] at h;have hy:=aaO h;refine ⟨id,es,rfl,BG,fun hm=>?_,?_⟩
     ·rw [D0.2 hm] at hu; cases hu
     ·rw [← hy]; exact lL.of (fun v hv=>pe.dE hv) hf
  ·cases h
 ·cases h
theorem Ii {used:List Nat} {v:AV} {id:Nat} (h:id∈used):id∈wP used v:=by
 unfold wP;split
 ·exact aaS _ h
 ·exact h
def Ea (R1:ai) (w:World) (used:List Nat) (v:AV) (c:Value) (p:RP) (y:p.T):Prop:=
 ∃ bs:List Nat,bs.length=p.no∧(∀ b∈bs,∃ id,id∉used∧id∈wP used v∧nth R1.obj id=some (.bE b)) ∧
   ∀ (R2:ai) (n:Nat),(∀ b o,R1.I b o→R2.I b o)→AZ R2 n bs→Rel R2 w (p.enc n y) c∧Jw R2 w (p.Ih y) bs
theorem mvI {R1 R2:ai} (hI:∀ b o,R1.I b o→R2.I b o):Mv R1 R2 0:=⟨hI,fun _ _ h=>absurd h (aaK _)⟩
theorem RP.UY {used:List Nat} {p:aP} {v:AV} {c:Value} {y:p.T} (hp:p.under 0=true) (hv:Rel R1 w v c) (hd:p.dec v=some y):Ea R1 w used v c (.SY p) y:=
 ⟨[],rfl,(fun b hb=>by cases hb),fun R2 n hI _=>⟨Rel.move (mvI hI) (p.eg y hp) ((p.tG hd).hJ _ _ _ hv),fun k go b h=>by cases k <;> cases h⟩⟩
theorem RP.Y3 {used:List Nat} {ps:aQ} {v:AV} {c:Value} {y:ps.T} (hp:ps.under 0=true) (hv:Rel R1 w v c) (hd:Jv ps v=some y):Ea R1 w used v c (.ep ps) y:=by
 obtain ⟨cs,rfl,hd⟩:=No hd;cases hv with
 |ep hc=>
 exact ⟨[],rfl,(fun b hb=>by cases hb),fun R2 n hI _=>⟨.ep (fN.move (mvI hI) ((ps.tG hd).1.Mk hc) (ps.eg y hp)),fun k go b h=>by cases k <;> cases h⟩⟩
theorem RP.UZ {G1:List GO} (hg:eY E R1 w G1) {used:List Nat} {pe:aP} {v:AV} {c:Value} {y:List pe.T} (hp:pe.under 0=true) (hv:Rel R1 w v c) (hd:D9 G1 used pe v=some y):Ea R1 w used v c (.map pe) y:=by
 obtain ⟨id,es,rfl,BG,hu,K9⟩:=K8 hd;cases hv with
 |map hb=>
 rename_i b;refine ⟨[b],rfl,fun b' kX=>?_,fun R2 n hI qA=>⟨.map (by have:=qA 0 b rfl; simpa using this),fun k go b' h1 h2=>?_⟩⟩
 ·rw [List.mem_singleton] at kX;subst kX;exact ⟨id,hu,List.mem_cons_self,hb⟩
 ·cases k with
  |succ k=>cases h2
  |zero=>
   cases h1; cases h2;obtain ⟨aH,clock,e1,e2,e3⟩:=hg.obj id _ _ BG hb;exact ⟨aH,clock,e1,eL.SZ (mvI hI) K9 (aP.AY hp y) e2,e3⟩
theorem RP.ok {G1:List GO} (hg:eY E R1 w G1) {used:List Nat} {p:RP} {v:AV} {c:Value} {y:p.T} (hp:p.under=true) (hv:Rel R1 w v c) (hd:p.dec G1 used v=some y):Ea R1 w used v c p y:=by
 cases p with
 |SY p=>exact RP.UY hp hv hd
 |ep ps=>exact RP.Y3 hp hv hd
 |map pe=>exact RP.UZ hg hp hv hd
theorem iK {α:Type} {l r:List α} {i:Nat} (h:i < l.length):nth (l++r) i=nth l i:=by
 rw [aN,aN,List.getElem?_append_left h]
theorem gN {α:Type} {l r:List α} (i:Nat):nth (l++r) (l.length+i)=nth r i:=by
 rw [aN,aN,List.getElem?_append_right (Nat.le_add_right _ _),Nat.add_sub_cancel_left]
theorem sC {α:Type} {l:List α} {i:Nat} {x:α} (h:nth l i=some x):i < l.length:=by
 rw [aN] at h;exact (List.getElem?_eq_some_iff.1 h).1
theorem RPs.ok {G1:List GO} (hg:eY E R1 w G1):∀ {l:List RP} {used:List Nat} {vs:List AV} {cs:List Value} {y:wO l},l.all RP.under=true→aL R1 w vs cs→wQ G1 used l vs=some y →
  ∃ bs:List Nat,bs.length=(jj l y).length∧bs.Nodup∧(∀ b∈bs,∃ id,id∉used∧nth R1.obj id=some (.bE b)) ∧
   ∀ (R2:ai) (n:Nat),(∀ b o,R1.I b o→R2.I b o)→AZ R2 n bs→aL R2 w (rR n l y) cs∧Jw R2 w (jj l y) bs
 |[],used,vs,cs,y,_,hv,hd=>by
  cases vs with
  |cons _ _=>cases hd
  |nil=>
  cases hv;exact ⟨[],rfl,aaR,(fun b hb=>by cases hb),fun R2 n _ _=>⟨.nil,fun k go b h=>by simp [jj,nth] at h⟩⟩
 |[p],used,vs,cs,y,hu,hv,hd=>by
  match vs,hv,hd with
  |[],_,hd=>cases hd
  |_ :: _ :: _,_,hd=>cases hd
  |[v],.cons hv .nil,hd=>
  have hu:p.under=true:=by simpa using hu
  obtain ⟨bs,h1,h2,h4⟩:=RP.ok hg hu hv hd;refine ⟨bs,h1.trans (p.S0 y).symm,?_,fun b hb=>let ⟨id,q1,_,q2⟩:=h2 b hb; ⟨id,q1,q2⟩,fun R2 n hI qA=>?_⟩
  ·have:bs.length≤1:=by rw [h1]; cases p <;> simp [RP.no]
   match bs,this with
   |[],_=>exact aaR
   |[b],_=>simp
   |_ :: _ :: _,h=>simp at h
  ·obtain ⟨k1,k2⟩:=h4 R2 n hI qA;exact ⟨.cons k1 .nil,k2⟩
 |p :: q :: l,used,vs,cs,y,hu,hv,hd=>by
  match vs,hv,hd with
  |[],_,hd=>cases hd
  |v :: vs,.cons (c:=c) (cs:=cs) hv hvs,hd=>
  simp only [List.all_cons,aal] at hu;obtain ⟨hu1,hu2⟩:=hu;have hu2:(q :: l).all RP.under=true:=by simpa using hu2
  have hd:((p.dec G1 used v).bind fun x=>(wQ G1 (wP used v) (q :: l) vs).bind fun y=>some (x,y))=some y:=hd;cases hx:p.dec G1 used v with
  |none=>rw [hx] at hd; cases hd
  |some x=>
  rw [hx] at hd;simp only [Option.bind_some] at hd;cases hz:wQ G1 (wP used v) (q :: l) vs with
  |none=>rw [hz] at hd; cases hd
  |some z=>
  rw [hz] at hd;simp only [Option.bind_some] at hd;cases hd;obtain ⟨bs,h1,h2,h4⟩:=RP.ok hg hu1 hv hx;obtain ⟨bs',k1,k0,k2,k4⟩:=RPs.ok hg hu2 hvs hz;have Kz:bs.length=(p.Ih x).length:=h1.trans (p.S0 x).symm;refine ⟨bs++bs',?_,?_,fun b hb=>?_,fun R2 n hI qA=>?_⟩
  ·show _=(p.Ih x++jj (q :: l) z).length;rw [aax,aax,Kz,k1]
  ·have Kt:bs.Nodup:=by
    have:bs.length≤1:=by rw [h1]; cases p <;> simp [RP.no]
    match bs,this with
    |[],_=>exact aaR
    |[b],_=>simp
    |_ :: _ :: _,h=>simp at h
   rw [List.nodup_append];refine ⟨Kt,k0,fun a ha b hb e=>?_⟩;subst e;obtain ⟨id,_,q2,q3⟩:=h2 a ha;obtain ⟨iU,r1,r2⟩:=k2 a hb;have:id=iU:=hg.inj id iU _ _ a q3 r2 rfl rfl;subst this;exact r1 q2
  ·rcases List.mem_append.1 hb with hb|hb
   ·obtain ⟨id,q1,_,q2⟩:=h2 b hb;exact ⟨id,q1,q2⟩
   ·obtain ⟨id,q1,q2⟩:=k2 b hb;exact ⟨id,fun hm=>q1 (Ii hm),q2⟩
  ·have at1:AZ R2 n bs:=fun k b hk=>qA k b (by rw [iK (sC hk)]; exact hk)
   have at2:AZ R2 (n+p.no) bs':=fun k b hk=>by
    have:=qA (bs.length+k) b (by rw [gN]; exact hk);rw [h1] at this;rw [Nat.add_assoc]; exact this
   obtain ⟨a1,a2⟩:=h4 R2 n hI at1;obtain ⟨b1,b2⟩:=k4 R2 (n+p.no) hI at2;refine ⟨.cons a1 b1,fun k go b ia hb=>?_⟩;change nth (p.Ih x++jj (q :: l) z) k=some go at ia;rcases aaT k bs.length with hk|hk
   ·rw [iK (by rw [← Kz]; exact hk)] at ia;rw [iK hk] at hb;exact a2 k go b ia hb
   ·obtain ⟨j,rfl⟩:∃ j,k=bs.length+j:=⟨k - bs.length,by omega⟩;rw [gN] at hb;rw [Kz,gN] at ia;exact b2 j go b ia hb
theorem A0:∀ (l:List RP) (n:Nat) (y:wO l),(rR n l y).length=l.length
 |[],_,_=>rfl
 |[_],_,_=>rfl
 |p :: q :: l,n,y=>by
  show (rR (n+p.no) (q :: l) y.2).length+1=(q :: l).length+1;rw [A0 (q :: l)]
theorem rS.of1 {R0:ai} {w0:World} {f:RF} {G G1:List GO} {r:AV} {c:Value} {y:wO f.l} (hf:f.under=true) (hG:eY E R0 w0 G) (st:Step ⟨R0.I,[]⟩ w0 (fun _=>0) gW R1 w (fun _=>0) gW) (hg:eY E R1 w G1) (dJ:Rel R1 w r c) (hd:f.dec G1 r=some y) :
  ∃ R2,Rel R2 w (f.val G.length y) c∧eY E R2 w (G++jj f.l y)∧Step R0 w0 (fun _=>0) gW R2 w (fun _=>0) gW:=by
 unfold RF.under at hf;rw [aal] at hf;unfold RF.dec at hd;obtain ⟨ht,hd⟩:f.CR r=true∧wQ G1 [] f.l (f.args r)=some y:=by
  cases ht:f.CR r with
  |true=>rw [ht] at hd; exact ⟨rfl,hd⟩
  |false=>rw [ht] at hd; cases hd
 obtain ⟨cs,sQ,Y4⟩:∃ cs,aL R1 w (f.args r) cs∧∀ R2 (x:wO f.l) n,aL R2 w (rR n f.l x) cs→Rel R2 w (f.val n x) c:=by
  unfold RF.args RF.val;cases acL:f.bP with
  |true=>
   have:∃ vs,r=.bP vs:=by
    cases r <;> first | exact ⟨_,rfl⟩ | (simp [RF.CR,acL] at ht)
   obtain ⟨vs,rfl⟩:=this;cases dJ with
   |bP h=>exact ⟨_,h,fun R2 x n h=>.bP h⟩
  |false=>
   refine ⟨[c],.cons dJ .nil,fun R2 x n h=>?_⟩;simp only [cond_false];have hlen:=A0 f.l n x;revert h hlen;generalize rR n f.l x=l;intro h hlen;cases h with
   |cons h _=>exact h
 obtain ⟨bs,h1,h2,h3,h4⟩:=RPs.ok hg hf.1 sQ hd;have mN:∀ b,¬ Own (⟨R0.I,[]⟩:ai) (fun _=>0) gW b:=fun b ho=>by
  obtain ⟨id,ro,q1,_⟩:=gL ho;simp [nth] at q1
 have pX:∀ b∈bs,w0.heap.size≤b:=fun b hb=>by
  obtain ⟨id,_,hid⟩:=h3 b hb;rcases aaT b w0.heap.size with bW|BM
  ·exact absurd (st.own b bW (.inl ⟨id,_,hid,rfl⟩)) (mN b)
  ·exact BM
 let R2:ai:=⟨R1.I,R0.obj++bs.map RO.bE⟩
 have e:Ext R0 w0 R2 w:=⟨st.ext.I,st.ext.cell,fun id ro h=>⟨ro,by rw [iK (sC h)]; exact h,cj.refl ro⟩,st.ext.lp⟩;have keep:∀ b,b < w0.heap.size→w.heap[b]?=w0.heap[b]?:=fun b hb=>st.keep b hb (mN b)
 have im:∀ b o,b < w0.heap.size→R1.I b o→R0.I b o:=fun b o hb hi=>st.im b o hi hb (mN b)
 have acM:∀ {k ro},nth (bs.map RO.bE) k=some ro→∃ b,nth bs k=some b∧ro=.bE b:=fun {k ro} h=>by
  rw [aN,List.getElem?_map] at h;cases hb:bs[k]? with
  |none=>rw [hb] at h; cases h
  |some b=>rw [hb] at h; exact ⟨b,by rw [aN]; exact hb,(aaO h).symm⟩
 have qA:AZ R2 R0.obj.length bs:=fun k b hk=>by
  show nth (R0.obj++bs.map RO.bE) (R0.obj.length+k)=_;rw [gN,aN,List.getElem?_map];rw [aN] at hk;rw [hk]; rfl
 obtain ⟨k1,k2⟩:=h4 R2 R0.obj.length (fun _ _ h=>h) qA;rw [hG.len] at k1;have hold:∀ id ro,nth R2.obj id=some ro→nth R0.obj id=some ro∨∃ k b,id=R0.obj.length+k∧nth bs k=some b∧ro=.bE b:=fun id ro h=>by
  rcases aaT id R0.obj.length with bW|BM
  ·exact .inl (by rw [← iK (r:=bs.map RO.bE) bW]; exact h)
  ·obtain ⟨k,rfl⟩:∃ k,id=R0.obj.length+k:=⟨id - R0.obj.length,by omega⟩;have h:nth (R0.obj++bs.map RO.bE) (R0.obj.length+k)=some ro:=h;rw [gN] at h;obtain ⟨b,q1,q2⟩:=acM h;exact .inr ⟨k,b,rfl,q1,q2⟩
 have S1:∀ id ro b,nth R0.obj id=some ro→ro.has b→b < w0.heap.size:=fun id ro b h hb=>by
  have hl:=sC h;rw [hG.len] at hl;have ia:nth G id=some G[id]:=by rw [aN]; exact aaM hl
  exact (hG.obj id _ _ ia h).lt hb
 have U0:∀ {k b},nth bs k=some b→b∈bs:=fun {k b} h=>by
  rw [aN] at h;exact List.mem_of_getElem? h
 refine ⟨R2,Y4 R2 y _ k1,⟨?_,fun id go ro q1 q2=>?_,fun i j ri rj b q1 q2 b1 b2=>?_,hg.wf,fun g cs wv=>(hG.dF g cs wv).mono e,hg.lo⟩,⟨e,st.os,st.tape,st.output,st.size,fun b hb _=>keep b hb,fun b hb ho=>?_,fun b o hi hb _=>im b o hb hi⟩⟩
 ·show (R0.obj++bs.map RO.bE).length=_;rw [aax,List.length_map,aax,hG.len,h1]
 ·rcases hold id ro q2 with q2|⟨k,b,rfl,q3,rfl⟩
  ·have hl:=sC q2;rw [hG.len] at hl;rw [iK hl] at q1;refine (hG.obj id go ro q1 q2).mono e (fun b hb=>keep b ?_) (fun b o hb hi=>im b o ?_ hi)
   ·exact (hG.obj id go ro q1 q2).lt hb
   ·exact (hG.obj id go ro q1 q2).lt hb
  ·rw [hG.len,gN] at q1;exact k2 k go b q1 q3
 ·rcases hold i ri q1 with q1|⟨k,a,rfl,q3,rfl⟩
  ·rcases hold j rj q2 with q2|⟨k',a',rfl,q4,rfl⟩
   ·exact hG.inj i j ri rj b q1 q2 b1 b2
   ·have:b=a':=b2;subst this;have:=pX _ (U0 q4);have:=S1 i ri b q1 b1;omega
  ·have hba:b=a:=b1;subst hba;rcases hold j rj q2 with q2|⟨k',a',rfl,q4,rfl⟩
   ·have:=pX _ (U0 q3);have:=S1 j rj b q2 b2;omega
   ·have:b=a':=b2;subst this;have l1:=sC q3;have l2:=sC q4;rw [aN] at q3 q4;have:=(List.getElem?_inj l1 h2).1 (q3.trans q4.symm);omega
 ·rcases gL ho with ⟨id,ro,q1,q2⟩;rcases hold id ro q1 with q1|⟨k,a,rfl,q3,rfl⟩
  ·exact .inl ⟨id,ro,q1,q2⟩
  ·have:b=a:=q2;subst this;have:=pX _ (U0 q3);omega
theorem Jx {G1:List GO} {r:AV}:∀ {outs:List RF} {y:XT outs},K7 G1 r outs=some y→(∀ f∈outs,f.under=true) →
  ∃ (f:RF) (z:wO f.l),f.under=true∧f.dec G1 r=some z∧∀ {α:Type} (G:List GO) (K:AV→List GO→α),XL G K outs y=K (f.val G.length z) (G++jj f.l z)
 |[],_,h,_=>by cases h
 |[f],y,h,hu=>⟨f,y,hu f (by simp),h,fun _ _=>rfl⟩
 |f :: g :: l,y,h,hu=>by
  simp only [K7] at h;cases hb:(f.CR r&&Nn f.l (f.args r)) with
  |true=>
   rw [hb] at h;simp only [cond_true] at h;cases hx:f.dec G1 r with
   |none=>rw [hx] at h; cases h
   |some x=>
    rw [hx] at h;cases h;exact ⟨f,x,hu f (by simp),hx,fun _ _=>rfl⟩
  |false=>
   rw [hb] at h;simp only [cond_false] at h;cases hx:K7 G1 r (g :: l) with
   |none=>rw [hx] at h; cases h
   |some x=>
    rw [hx] at h;cases h;obtain ⟨f',z,k0,k1,k2⟩:=Jx hx (fun f hf=>hu f (aaS _ hf));exact ⟨f',z,k0,k1,fun G K=>k2 G K⟩
theorem rS.of {g:FuncId} {args:List AV} {outs:List RF} {Q:XT outs→Prop} (hc:aO 0 args=true) (hp:∀ f∈outs,f.under=true)
  (h:cZ E g args [] (fun r G'=>∃ y,K7 G' r outs=some y∧Q y)):rS E g args outs Q:=fun G=>by
 refine ⟨h.1,fun R w cs hg hl=>?_⟩
 let R0:ai:=⟨R.I,[]⟩
 have m0:Mv R R0 0:=⟨fun _ _ h=>h,fun _ _ h=>absurd h (aaK _)⟩;have XA:eY E R0 w []:=⟨rfl,fun id go ro h1 _=>by simp [nth] at h1,fun i j ri rj b h1=>by simp [R0,nth] at h1,hg.wf,fun g cs wv=>(hg.dF g cs wv).move m0 (df _ (E.Dm g cs wv)),hg.lo⟩;have wj:aL R0 w args cs:=hl.move m0 hc;refine (h.2 R0 w cs XA wj).mono fun e w' he=>?_
 cases e with
 |panicked c=>exact he.elim
 |outgrown=>exact he.elim
 |returned c=>
  obtain ⟨r,G',R1,⟨y,hy,hQ⟩,dJ,LZ,st⟩:=he;obtain ⟨f,z,hf,hz,ia⟩:=Jx hy hp;obtain ⟨R2,k1,k2,k3⟩:=rS.of1 hf hg st LZ dJ hz;refine ⟨_,_,R2,⟨y,hQ,?_⟩,k1,k2,k3⟩;rw [ia];exact ⟨rfl,rfl⟩
end
end Go.Am
namespace Go.Am
open Go
def vh (s:St) (t:Tmp) (sz:Nat) (e:TypeId):Option (Bool × St):=match lk s.ab t with
 |.v (.list (.own id) bh es)=>match nth s.G id with
  |some (.tok f gK e2)=>if aao bh sz&&(aao gK sz&&aao e2 e) then
    some (decide (f=es.length),⟨.put t (.v (.list .gQ sz es)) :: s.ab,s.boxes,ak s.G id .dead,s.marks,s.ro,s.n⟩) else none
  |_=>none
 |_=>none
def xP (s:St) (t:Tmp) (sz:Nat) (e:TypeId):Option St:=match lk s.ab t with
 |.v (.list _ bh es)=>if aao bh sz then some ⟨.put t (.v (.list (.own s.G.length) sz es)) :: s.ab,s.boxes,s.G++[.tok es.length sz e],s.marks,s.ro,s.n⟩ else none
 |_=>none
section
variable {E:Env} {R:ai} {w:World} {β:Nat→Nat} {s:St} {a:Act}
def tV (R:ai) (w:World) (β:Nat→Nat) (bx:cX) (c:Value) (n sz:Nat) (e:TypeId) (ro:RO):Prop:=
 iE R w (.tok n sz e) ro∧(∀ b,ro.has b→¬ Live R b∧∀ k cs,dR bx k=some cs→β k≠b) ∧
  ((c=.slice none 0 0∧ro=.a8)∨∃ b o len cap,c=.slice (some ⟨b,o,none⟩) len cap∧len=n∧Mc b o len cap ro)
theorem tV.mono {R R':ai} {bx IX:cX} {c:Value} {n sz:Nat} {e:TypeId} {ro:RO} (h:tV R w β bx c n sz e ro) (hI:R'.I=R.I) (hl:∀ b,Live R' b→Live R b) (hb:∀ k cs,dR IX k=some cs→∃ eZ,dR bx k=some eZ):tV R' w β IX c n sz e ro:=by
 obtain ⟨h1,h2,h3⟩:=h;refine ⟨?_,fun b Mi=>⟨fun q=>(h2 b Mi).1 (hl b q),fun k cs hk=>let ⟨eZ,iZ⟩:=hb k cs hk; (h2 b Mi).2 k eZ iZ⟩,h3⟩;cases ro with
 |tok f g c k=>
  obtain ⟨q1,cur,q2,q3,q4,q5,q6⟩:=h1;exact ⟨q1,cur,q2,q3,q4,q5,fun o ho=>by rw [hI]; exact q6 o ho⟩
 |a8=>exact h1
 |none=>exact h1.elim
 |bE _=>exact h1.elim
 |aX _=>exact h1.elim
theorem CS {t:Tmp} {sz:Nat} {e:TypeId} {s':St} (h:aY E R w β s a) (hs:vh s t sz e=some (true,s')) :
  ∃ R' c ro es,aY E R' w β s' a∧Step R w β s.boxes R' w β s'.boxes∧s'.ro=s.ro∧aK s s'∧s'.boxes=s.boxes∧lk s'.ab t=.v (.list .gQ sz es)∧a.tmps[t]?=some c∧tV R' w β s'.boxes c es.length sz e ro∧∀ b,ro.has b→Live R b:=by
 unfold vh at hs;split at hs
 ·rename_i id bh es ht;split at hs
  ·rename_i f gK e2 hid;split at hs
   ·rename_i bI;simp only [aal] at bI;have q1:=aap bI.1;have q2:=aap bI.2.1;have q3:=aap bI.2.2;subst q1; subst q2; subst q3;injection hs with hs; injection hs with hc hs;have hf:=of_decide_eq_true hc;subst hf;obtain ⟨c,k1,k2⟩:=h.t t (by rw [ht]; simp);rw [ht] at k2;have k2:Rel R w (.list (.own id) gK es) c:=k2;obtain ⟨ro,ba⟩:∃ ro,nth R.obj id=some ro:=by
     have bW:=aU hid;rw [← h.g.len] at bW;exact ⟨R.obj[id],by rw [aN,aaM bW]⟩
    have bl:=h.g.obj id _ _ hid ba
    let R':ai:=⟨R.I,ak R.obj id .none⟩
    have hle:cj ro .none:=by cases ro <;> first | trivial | exact bl.elim
    have ext:Ext R w R' w:=⟨fun _ _ h=>h,fun _ _ _=>rfl,fun i r hr=>by
     by_cases ei:id=i
     ·subst ei;rw [ba] at hr;cases hr;exact ⟨_,aj ba,hle⟩
     ·exact ⟨r,by rw [aJ ei]; exact hr,cj.refl r⟩,fb.refl w⟩
    have hinv:∀ {i:Nat} {r:RO},nth R'.obj i=some r→(i=id∧r=.none)∨(i≠id∧nth R.obj i=some r):=fun hr=>ar ba hr
    have live:∀ b,Live R' b→Live R b:=fun b ⟨i,r,l1,l2⟩=>by
     rcases hinv l1 with ⟨_,rfl⟩|⟨_,l1⟩
     ·exact l2.elim
     ·exact ⟨i,r,l1,l2⟩
    have hex:aK s s':=by subst hs; exact ⟨⟨[_],rfl⟩,⟨[],rfl⟩,rfl⟩
    have Y5:Rel R' w (.list .gQ gK es) c:=by
     cases k2 with
     |me _ _=>exact .jN
     |list hr hl fj _=>exact Rel.list (hr.mono ext) hl fj trivial
    have DO:tV R' w β s'.boxes c es.length gK e2 ro:=by
     refine ⟨?_,fun b hb=>⟨fun ⟨i,r,l1,l2⟩=>?_,fun k cs hk he=>?_⟩,?_⟩
     ·cases ro <;> first | exact bl | exact bl.elim
     ·rcases hinv l1 with ⟨_,rfl⟩|⟨cq,l1⟩
      ·exact l2.elim
      ·exact cq (h.g.inj i id r ro b l1 ba l2 hb)
     ·subst hs;exact (h.b.box k cs hk).2.2 ⟨id,ro,ba,by rw [he]; exact hb⟩
     ·cases k2 with
      |me h1 h2=>
       rw [ba] at h1;cases h1;refine .inl ⟨rfl,?_⟩;cases ro with
       |a8=>rfl
       |none=>exact bl.elim
       |bE _=>exact bl.elim
       |aX _=>exact bl.elim
       |tok f g c k=>
        obtain ⟨q,_⟩:=bl;simp only [aaN] at q;simp only [oF] at h2;omega
      | @list _ _ _ b o len cap hr hl fj hk=>
       obtain ⟨r',h1,h2⟩:=hk;rw [ba] at h1;cases h1;exact .inr ⟨b,o,len,cap,rfl,hl,h2⟩
    refine ⟨R',c,ro,es,?_,?_,by subst hs; rfl,hex,by subst hs; rfl,by subst hs; exact aD _ _ _,k1,DO,fun b hb=>⟨id,ro,ba,hb⟩⟩
    ·subst hs;refine ⟨⟨by simp [R',h.g.len],fun i gg r g1 g2=>?_,fun i j ri rj b g1 g2 b1 b2=>?_,h.g.wf,fun g cs hg=>(h.g.dF g cs hg).mono ext,h.g.lo⟩,h.b.keep ext (fun _ _ _=>rfl) (fun _ _ _ _ hi=>hi) (fun _ _ _ hl=>live _ hl),fun i hi=>?_,h.n,h.d.mono ext⟩
     ·rcases hinv g2 with ⟨rfl,rfl⟩|⟨cq,g2⟩
      ·rw [aj hid] at g1;cases g1;trivial
      ·rw [aJ (Ne.symm cq)] at g1;exact (h.g.obj i gg r g1 g2).mono ext (fun _ _=>rfl) (fun _ _ _ hi=>hi)
     ·rcases hinv g1 with ⟨_,rfl⟩|⟨_,g1⟩
      ·exact b1.elim
      ·rcases hinv g2 with ⟨_,rfl⟩|⟨_,g2⟩
       ·exact b2.elim
       ·exact h.g.inj i j ri rj b g1 g2 b1 b2
     ·by_cases e:t=i
      ·subst e;rw [aD];exact ⟨c,k1,Y5⟩
      ·rw [aT e] at hi ⊢;obtain ⟨c',l1,l2⟩:=h.t i hi;exact ⟨c',l1,l2.mono ext⟩
    ·subst hs;refine ⟨ext,rfl,rfl,rfl,aaQ _,fun _ _ _=>rfl,fun b _ ho=>?_,fun _ _ hi _ _=>hi⟩;rcases ho with ho|ho
     ·exact .inl (live b ho)
     ·exact .inr ho
   ·cases hs
  ·cases hs
 ·cases hs
theorem La {t:Tmp} {sz:Nat} {e:TypeId} {c:Value} {n:Nat} {ro:RO} {s':St} (h:aY E R w β s a) (hs:xP s t sz e=some s') (hc:a.tmps[t]?=some c) (ho:tV R w β s.boxes c n sz e ro) :
  aY E (R.add ro) w β s' a∧s'.boxes=s.boxes∧s'.ro=s.ro∧aK s s':=by
 unfold xP at hs;split at hs
 ·rename_i k bh es hl;split at hs
  ·rename_i hz;have hz:=aap hz;subst hz;cases hs;obtain ⟨o1,o2,o3⟩:=ho;obtain ⟨c',k1,k2⟩:=h.t t (by rw [hl]; simp);rw [hc] at k1;cases k1;rw [hl] at k2;have k2:Rel R w (.list k bh es) c:=k2;have ext:Ext R w (R.add ro) w:=⟨fun _ _ h=>h,fun _ _ _=>rfl,fun _ r hr=>⟨r,bn hr,cj.refl r⟩,fb.refl w⟩;have pX:nth (R.add ro).obj s.G.length=some ro:=by rw [← h.g.len]; exact bS _ _
   have dJ:es.length=n∧Rel (R.add ro) w (.list (.own s.G.length) bh es) c:=by
    rcases o3 with ⟨rfl,rfl⟩|⟨b,o,len,cap,rfl,rfl,hk⟩
    ·have hn:n=0:=o1;subst hn;cases k2 <;> exact ⟨rfl,Rel.me pX trivial⟩
    ·cases k2 with
     |oG=>exact ⟨rfl,Rel.list .nil rfl (aaQ _) ⟨_,pX,hk⟩⟩
     |list hr hlen fj _=>exact ⟨hlen.symm,Rel.list (hr.mono ext) hlen fj ⟨_,pX,hk⟩⟩
   obtain ⟨hn,dJ⟩:=dJ;subst hn;refine ⟨⟨⟨by simp [ai.add,h.g.len],fun i gg r g1 g2=>?_,fun i j ri rj b g1 g2 b1 b2=>?_,h.g.wf,fun g cs hg=>(h.g.dF g cs hg).mono ext,h.g.lo⟩,h.b.keep ext (fun _ _ _=>rfl) (fun _ _ _ _ hi=>hi) (fun k cs hk hl=>?_),fun i hi=>?_,h.n,h.d.mono ext⟩,rfl,rfl,⟨⟨[_],rfl⟩,⟨[],rfl⟩,rfl⟩⟩
   ·rcases ah g2 with P7|⟨g3,rfl⟩
    ·rcases ah g1 with BF|⟨g4,_⟩
     ·exact (h.g.obj i gg r BF P7).mono ext (fun _ _=>rfl) (fun _ _ _ hi=>hi)
     ·have:=aU P7;rw [h.g.len] at this;omega
    ·rcases ah g1 with BF|⟨g4,rfl⟩
     ·have:=aU BF;rw [g3,h.g.len] at this;omega
     ·cases r <;> first | exact o1 | exact o1.elim
   ·rcases ah g1 with BF|⟨g3,e1⟩
    ·rcases ah g2 with P7|⟨g4,e2⟩
     ·exact h.g.inj i j ri rj b BF P7 b1 b2
     ·rw [e2] at b2;exact absurd ⟨i,ri,BF,b1⟩ (o2 b b2).1
    ·rcases ah g2 with P7|⟨g4,e2⟩
     ·rw [e1] at b1;exact absurd ⟨j,rj,P7,b2⟩ (o2 b b1).1
     ·omega
   ·rcases kZ hl with hl|hl
    ·exact hl
    ·exact absurd rfl ((o2 _ hl).2 k cs hk)
   ·by_cases e:t=i
    ·subst e;rw [aD];exact ⟨c,hc,dJ⟩
    ·rw [aT e] at hi ⊢;obtain ⟨c',l1,l2⟩:=h.t i hi;exact ⟨c',l1,l2.mono ext⟩
  ·cases hs
 ·cases hs
theorem CT {R0 R1 R2 R3:ai} {w w2:World} {β β2:Nat→Nat} {bx0:cX} {s1 s2 s3 s4:St} {a a2:Act} {tm:ca} {v:tm.ps.T} {t:Tmp} {sz n:Nat} {e:TypeId} {c:Value} {ro:RO}
  (h1:aY E R1 w β s1 a) (hn:R0.obj.length=s1.G.length) (hx:aK s1 s3) (hE:Ext R1 w R3 w2) (st:Step R0 w β bx0 R2 w2 β2 s2.boxes) (h3:aY E R3 w2 β2 s3 a2) (P5:Step R2 w2 β2 s2.boxes R3 w2 β2 s3.boxes)
  (hc:a2.tmps[t]?=some c) (ho:tV R3 w2 β2 s3.boxes c n sz e ro) (hl:∀ b,ro.has b→Live R2 b) (hd:tm.dec s1 s3=some v) (hr:xP (tm.st s1 v) t sz e=some s4) :
  ∃ R4,aY E R4 w2 β2 s4 a2∧Step R0 w β bx0 R4 w2 β2 s4.boxes∧Ext R1 w R4 w2∧s4.ro=(tm.st s1 v).ro∧aK (tm.st s1 v) s4:=by
 obtain ⟨q1,q2,q3⟩:=ca.H8 hx h1 h3 hE hd;obtain ⟨p1,p2,p3,p4⟩:=La q1 hr hc (ho.mono rfl (fun b hb=>rP hb) q3);have ext:Ext (R3.cut s1.G.length) w2 ((R3.cut s1.G.length).add ro) w2:=⟨fun _ _ h=>h,fun _ _ _=>rfl,fun _ r hr=>⟨r,bn hr,cj.refl r⟩,fb.refl w2⟩;have Ij:=st.trans P5;refine ⟨_,p1,⟨⟨Ij.ext.I,Ij.ext.cell,fun id r hid=>?_,Ij.ext.lp⟩,st.os,st.tape,st.output,st.size,st.keep,fun b hb HM=>?_,fun b o hi hb rq=>Ij.im b o hi hb rq⟩,q2.trans ext,p3,p4⟩
 ·obtain ⟨r',g1,g2⟩:=Ij.ext.obj id r hid;have:=aU hid;exact ⟨r',bn (kd.2 ⟨by omega,g1⟩),g2⟩
 ·have Jj:b < w2.heap.size:=Nat.lt_of_lt_of_le hb st.size;rcases HM with HM|⟨k,cs,hk,rfl⟩
  ·rcases kZ HM with HM|HM
   ·exact Ij.own b hb (.inl (rP HM))
   ·exact st.own b hb (.inl (hl b HM))
  ·rw [p2] at hk;obtain ⟨eZ,iZ⟩:=q3 k cs hk;exact Ij.own _ hb (.inr ⟨k,eZ,iZ,rfl⟩)
end
end Go.Am
