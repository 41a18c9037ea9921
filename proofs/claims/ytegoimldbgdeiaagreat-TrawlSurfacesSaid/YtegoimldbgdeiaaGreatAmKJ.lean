/- The abstract machine: ranges over functions. -/
import Derived.Test.YtegoimldbgdeiaaGreatAmKI
import Derived.RangeFuncIn
import Derived.RangeFuncRecord
import Derived.RangeFuncNested
set_option linter.all false
open Bool renaming and_eq_true→aaa
open Go.Deferred renaming ofValue→abu
open Go.Fence renaming wide→aak
open Go.LoopState renaming busy→abJ
open List renaming length_append→aaq, nodup_nil→aaN, mem_cons_of_mem→abp
open Nat renaming beq→aag, eq_of_beq_eq_true→aah, ble→aar, not_lt_zero→aas, lt_or_ge→abr
open Option renaming isSome_iff_exists→aaF
open Option.some renaming inj→aaG
namespace Go.Am
open Go
def iX:bz→bz
 |[]=>[]
 |.put d (.lp _ _) :: l=>.put d .none :: iX l
 |.put d x :: l=>.put d x :: iX l
 |.kill _ :: l=>iX l
def SV.Fp:SV→SV
 |.lp _ _=>.none
 |x=>x
theorem vG (t:Nat):∀ l:bz,lk (iX l) t=(lk l t).Fp
 |[]=>rfl
 |.put d x :: l=>by
  cases x <;> simp only [iX] <;> by_cases e:d=t <;> first | (subst e; rw [aN,aN]; rfl) | (rw [a8 e,a8 e]; exact vG t l)
 |.kill d :: l=>by
  simp only [iX,lk];rw [vG t l];cases lk l t with
  |lp k off=>
   by_cases e:k=d
   ·subst e; simp [SV.Fp]
   ·simp [sO e,SV.Fp]
  |_=>rfl
theorem ox:∀ l:bz,Ny (iX l)=true
 |[]=>rfl
 |.put d x :: l=>by
  cases x <;> simp only [iX,Ny] <;> exact ox l
 |.kill d :: l=>by simp only [iX]; exact ox l
def rfQ (E:Env) (Q:Exit→St→Prop) (s:St) (G':List GO):Prop:=
 match nth G' (s.G.length+1) with
 |some (.loop busy pending _ _ _ _ _ _ _ done)=>(busy=false∨done=true) ∧
  match pending with
  |none=>Q .normal ⟨s.ab,s.boxes,aC G' (s.G.length+1) .dead,s.G.length :: s.marks,s.ro,s.n⟩
  |some c=>jv E c Q ⟨s.ab,s.boxes,aC G' (s.G.length+1) .dead,s.G.length :: s.marks,s.ro,s.n⟩
 |_=>False
theorem DJ {busy done:Bool} (h:busy=false∨done=true):(if done=true then LoopState.done else if busy=true then abJ else LoopState.ready)≠abJ:=by
 rcases h with rfl|rfl
 ·cases done <;> simp
 ·simp
theorem jv.rangeFunc {E:Env} {Q:Exit→St→Prop} {s:St} (fp:Nat) {g:Operand} {ps:Array Tmp} {assign body:Code} (bu:s.ro=none) {f:FuncId} {first cap:List AV} (hg:bO E s.ab g=.v (.fn f first cap))
  (h:eP E f (first++[.yield (s.G.length+1)]++cap) (s.G++[.defers true]++[.loop false none fp (iX s.ab) s.n ps.toList assign body s.G.length false]) (fun _ G'=>rfQ E Q s G')) :
  jv E (.rangeFunc g ps assign body) Q s:=fun R w β a F hr hf=>by
 rw [bu] at hf;have hf':F=aak:=hf;subst hf';refine wpIn_rangeFunc fun fn _=>?_
 have rg:=a6 hr g;rw [hg] at rg;have rg':Rel R w (.fn f first cap) (a.eval g):=rg
 -- the block for the deferred calls
 have hd1:jW (R.add (.bZ w.heap.size)) (w.alloc (.deferred (some []))) (.defers true) (.bZ w.heap.size):=heap_alloc_new w _;have h1:=hr.oU (.deferred (some [])) (.defers true) (.bZ w.heap.size) (by exact fun _ h=>h) hd1;have s1:=eF hr (.deferred (some [])) (.bZ w.heap.size) (by exact fun _ h=>h);have gJ:(w.alloc (.deferred (some []))).heap.size=w.heap.size+1:=by simp
 generalize hw1:w.alloc (.deferred (some []))=w1 at *;generalize hR1:R.add (.bZ w.heap.size)=R1 at *
 -- the loop's record
 let n7:Loop:={ state:=.ready,pending:=none,fn:=fn,tmps:=a.tmps,params:=ps,assign:=assign,body:=body,defers:=w.heap.size }
 have IJ:nth R1.obj s.G.length=some (.bZ w.heap.size):=by rw [← hR1]; exact jy hr _
 have e2:Ext R1 w1 (R1.add (.bZ w1.heap.size)) (w1.alloc (.loop n7)):=jY h1.g.wf _ _;have hd2:jW (R1.add (.bZ w1.heap.size)) (w1.alloc (.loop n7)) (.loop false none fp (iX s.ab) s.n ps.toList assign body s.G.length false) (.bZ w1.heap.size):=by
  refine ⟨⟨n7,w.heap.size,heap_alloc_new w1 _,rfl,rfl,fun i hi=>?_,hr.n,by simp [n7],rfl,rfl,rfl,e2.bZ IJ⟩,ox _⟩;rw [vG] at hi ⊢;have df:lk s.ab i≠.none:=fun e=>hi (by rw [e]; rfl)
  obtain ⟨c,k1,k2⟩:=hr.t i df;refine ⟨c,k1,?_⟩;cases hx:lk s.ab i with
  |none=>exact absurd hx df
  |lp k off=>rw [hx] at hi; exact absurd rfl hi
  |v x=>
   rw [hx] at k2;exact Rel.mono (s1.ext.trans e2) (show Rel R w x c from k2)
 have h2:=h1.oU (.loop n7) (.loop false none fp (iX s.ab) s.n ps.toList assign body s.G.length false) (.bZ w1.heap.size) (by exact fun _ h=>h) hd2;have s2:=eF h1 (.loop n7) (.bZ w1.heap.size) (by exact fun _ h=>h);have Sp:nth (R1.add (.bZ w1.heap.size)).obj (s.G.length+1)=some (.bZ w1.heap.size):=by
  have:=jy h1 (.bZ w1.heap.size);simpa [St.fL] using this
 have st:=s1.trans s2;generalize hR2:R1.add (.bZ w1.heap.size)=R2 at *;generalize hfv:a.eval g=fv at rg';cases rg' with
 | @fn _ _ _ vs us q1 q2=>
 refine ⟨w.heap.size+1,[{ target:=.collected w.heap.size,args:=#[] }],w1.alloc (.loop n7),{ target:=.fn (.func f) ⟨us⟩,args:=⟨vs⟩++#[.func (.yield (w.heap.size+1)) #[] #[]] },w1.alloc (.loop n7),f,
  ⟨vs++[.func (.yield (w.heap.size+1)) #[] #[]]++us⟩,w1.alloc (.loop n7),?_,?_,?_,?_,?_,?_⟩
 ·have:aak.round=none:=rfl;rw [this,run_enterLoop_outer,hw1]
 ·simp only [resolve,hfv,abu,Sem.run_pure];simp [Act.eval]
 ·intro f' _;exact trivial
 ·have:=s6 (P:=E.P) h.1 (⟨vs++[.func (.yield (w.heap.size+1)) #[] #[]]++us⟩) (w1.alloc (.loop n7));simpa [invoke] using this
 ·intro hc; cases hc
 ·have hG:(s.fL (.defers true)).fL (.loop false none fp (iX s.ab) s.n ps.toList assign body s.G.length false)=s.bM (s.G++[.defers true]++[.loop false none fp (iX s.ab) s.n ps.toList assign body s.G.length false]):=rfl;have hyl:Rel R2 (w1.alloc (.loop n7)) (.yield (s.G.length+1)) (.func (.yield (w.heap.size+1)) #[] #[]):=by
   rw [← gJ];exact .yield Sp
  refine (h.2 R2 (w1.alloc (.loop n7)) _ h2.g ((((q1.mono st.ext).append (.one hyl)).append (q2.mono st.ext)))).mono ?_;intro e w3 he;cases e with
  |panicked c=>exact he.elim
  |outgrown=>exact he.elim
  |returned c=>
   obtain ⟨r,G',R3,hQ,gO,hg3,st3⟩:=he;obtain ⟨p1,p2⟩:=h2.vy hg3 st3;unfold rfQ at hQ;split at hQ
   ·rename_i busy pending ff sl nn pp xm bd dd done Hy;obtain ⟨hbd,hQ⟩:=hQ;have Sq:nth R3.obj (s.G.length+1)=some (.bZ w1.heap.size):=st3.ext.bZ Sp;obtain ⟨⟨r3,db,l1,l2,l3,_,_,_,_,_,_,_⟩,_⟩:=p1.g.obj _ _ _ Hy Sq;have Mr:r3.state≠.busy:=by rw [l2]; exact DJ hbd
    have l1':w3.heap[w.heap.size+1]?=some (.loop r3):=by rw [← gJ]; exact l1
    refine ⟨r3.pending,_,run_endLoop l1' Mr,?_⟩;rw [l3]
    -- the record is dead
    have ae6:nth R3.obj s.G.length=some (.bZ w.heap.size):=st3.ext.bZ (by rw [← hR2] at e2 ⊢; exact e2.bZ IJ);have key:∀ x:Obj,sW x→(∀ r,Obj.loop r3=.loop r→∃ r',x=.loop r'∧uc r r')→bi E R3 (World.put w3 w1.heap.size x) β ⟨s.ab,s.boxes,aC G' (s.G.length+1) .dead,s.G.length :: s.marks,s.ro,s.n⟩ { a with defers:=[{ target:=.collected w.heap.size,args:=#[] }]++a.defers }∧Step R w β s.boxes R3 (World.put w3 w1.heap.size x) β s.boxes:=fun x hx hlx=>by
     obtain ⟨z1,z2⟩:=p1.setObj (x':=x) (go':=.dead) Sq l1 trivial hx hlx (show w1.heap.size < _ by simp [World.put]; exact bK l1);exact ⟨⟨z1.g,z1.b,z1.t,z1.n,⟨⟨w.heap.size,ae6,rfl⟩,z1.d⟩⟩,(st.trans p2).trans z2⟩
    obtain ⟨z1,z2⟩:=key (.loop { r3 with state:=.exhausted,pending:=pending }) trivial (fun r e=>⟨_,rfl,by cases e; exact ⟨rfl,rfl,rfl,rfl,rfl⟩⟩);rw [gJ] at z1 z2;cases pending with
    |none=>exact ⟨_,R3,β,hQ,z1,z2,rfl⟩
    |some c=>
     refine wpIn_mono (hQ R3 _ β _ aak z1 (by show cT R3 s.ro aak; rw [bu]; rfl)) ?_;rintro e a'' U4 ⟨He,Rf,Yw,RW,C5,wC,Bd⟩;exact ⟨He,Rf,Yw,RW,C5,z2.trans wC,Bd⟩
   ·exact hQ.elim
def aaH (E:Env) (Q:Exit→St→Prop) (s:St) (G':List GO):Prop:=
 match nth G' s.G.length with
 |some (.loop busy pending _ _ _ _ _ _ _ done)=>(busy=false∨done=true) ∧
  match pending with
  |none=>Q .normal ⟨s.ab,s.boxes,aC G' s.G.length .dead,s.marks,s.ro,s.n⟩
  |some c=>jv E c Q ⟨s.ab,s.boxes,aC G' s.G.length .dead,s.marks,s.ro,s.n⟩
 |_=>False
theorem jv.Ms {E:Env} {Q:Exit→St→Prop} {s:St} (fp:Nat) {g:Operand} {ps:Array Tmp} {assign body:Code} {id:Nat} (bu:s.ro=some id)
  {bu0:Bool} {p0:Option Code} {fn0:FuncId} {sl0:bz} {n0:Nat} {ps0:List Tmp} {as0 bd0:Code} {d0:Nat} {dn0:Bool} (hid:nth s.G id=some (.loop bu0 p0 fn0 sl0 n0 ps0 as0 bd0 d0 dn0))
  {f:FuncId} {first cap:List AV} (hg:bO E s.ab g=.v (.fn f first cap))
  (h:eP E f (first++[.yield s.G.length]++cap) (s.G++[.loop false none fp (iX s.ab) s.n ps.toList assign body d0 false]) (fun _ G'=>aaH E Q s G')) :
  jv E (.rangeFunc g ps assign body) Q s:=fun R w β a F hr hf=>by
 rw [bu] at hf;obtain ⟨b0,YI,hF⟩:=hf;subst hF;obtain ⟨⟨r0,db0,x1,x2,x3,x4,x5,x6,x7,x8,x9,x10⟩,x11⟩:=hr.g.obj _ _ _ hid YI;refine wpIn_rangeFunc fun fn _=>?_
 have rg:=a6 hr g;rw [hg] at rg;have rg':Rel R w (.fn f first cap) (a.eval g):=rg
 -- the loop's record
 let n7:Loop:={ state:=.ready,pending:=none,fn:=fn,tmps:=a.tmps,params:=ps,assign:=assign,body:=body,defers:=r0.defers }
 have e2:Ext R w (R.add (.bZ w.heap.size)) (w.alloc (.loop n7)):=jY hr.g.wf _ _;have hd2:jW (R.add (.bZ w.heap.size)) (w.alloc (.loop n7)) (.loop false none fp (iX s.ab) s.n ps.toList assign body d0 false) (.bZ w.heap.size):=by
  refine ⟨⟨n7,db0,heap_alloc_new w _,rfl,rfl,fun i hi=>?_,hr.n,by simp [n7],rfl,rfl,x9,e2.bZ x10⟩,ox _⟩;rw [vG] at hi ⊢;have df:lk s.ab i≠.none:=fun e=>hi (by rw [e]; rfl)
  obtain ⟨c,k1,k2⟩:=hr.t i df;refine ⟨c,k1,?_⟩;cases hx:lk s.ab i with
  |none=>exact absurd hx df
  |lp k off=>rw [hx] at hi; exact absurd rfl hi
  |v x=>
   rw [hx] at k2;exact Rel.mono e2 (show Rel R w x c from k2)
 have h2:=hr.oU (.loop n7) (.loop false none fp (iX s.ab) s.n ps.toList assign body d0 false) (.bZ w.heap.size) (by exact fun _ h=>h) hd2;have st:=eF hr (.loop n7) (.bZ w.heap.size) (by exact fun _ h=>h);have Sp:nth (R.add (.bZ w.heap.size)).obj s.G.length=some (.bZ w.heap.size):=jy hr _;generalize hR2:R.add (.bZ w.heap.size)=R2 at *;generalize hfv:a.eval g=fv at rg';cases rg' with
 | @fn _ _ _ vs us q1 q2=>
 refine ⟨w.heap.size,[],w.alloc (.loop n7),{ target:=.fn (.func f) ⟨us⟩,args:=⟨vs⟩++#[.func (.yield w.heap.size) #[] #[]] },w.alloc (.loop n7),f,
  ⟨vs++[.func (.yield w.heap.size) #[] #[]]++us⟩,w.alloc (.loop n7),?_,?_,?_,?_,?_,?_⟩
 ·have:(aak.inRound b0).round=some b0:=rfl;rw [this];exact run_enterLoop_inner x1 _ _ _ _ _
 ·simp only [resolve,hfv,abu,Sem.run_pure];simp [Act.eval]
 ·intro f' _;exact trivial
 ·have:=s6 (P:=E.P) h.1 (⟨vs++[.func (.yield w.heap.size) #[] #[]]++us⟩) (w.alloc (.loop n7));simpa [invoke] using this
 ·intro hc; cases hc
 ·have hyl:Rel R2 (w.alloc (.loop n7)) (.yield s.G.length) (.func (.yield w.heap.size) #[] #[]):=.yield Sp;have F8:=(h.2 R2 (w.alloc (.loop n7)) _ h2.g ((((q1.mono st.ext).append (.one hyl)).append (q2.mono st.ext))));refine CallsIn.mono (F:=aak.inRound b0) F8 ?_;intro e w3 he;cases e with
  |panicked c=>exact he.elim
  |outgrown=>exact he.elim
  |returned c=>
   obtain ⟨r,G',R3,hQ,gO,hg3,st3⟩:=he;obtain ⟨p1,p2⟩:=h2.vy hg3 st3;unfold aaH at hQ;split at hQ
   ·rename_i busy pending ff sl nn pp xm bd dd done Hy;obtain ⟨hbd,hQ⟩:=hQ;have Sq:nth R3.obj s.G.length=some (.bZ w.heap.size):=st3.ext.bZ Sp;obtain ⟨⟨r3,db,l1,l2,l3,_,_,_,_,_,_,_⟩,_⟩:=p1.g.obj _ _ _ Hy Sq;have Mr:r3.state≠.busy:=by rw [l2]; exact DJ hbd
    refine ⟨r3.pending,_,run_endLoop l1 Mr,?_⟩;rw [l3];have key:∀ x:Obj,sW x→(∀ r,Obj.loop r3=.loop r→∃ r',x=.loop r'∧uc r r')→bi E R3 (World.put w3 w.heap.size x) β ⟨s.ab,s.boxes,aC G' s.G.length .dead,s.marks,s.ro,s.n⟩ { a with defers:=[]++a.defers }∧Step R w β s.boxes R3 (World.put w3 w.heap.size x) β s.boxes:=fun x hx hlx=>by
     obtain ⟨z1,z2⟩:=p1.setObj (x':=x) (go':=.dead) Sq l1 trivial hx hlx (show w.heap.size < _ by simp [World.put]; exact bK l1);exact ⟨⟨z1.g,z1.b,z1.t,z1.n,z1.d⟩,(st.trans p2).trans z2⟩
    obtain ⟨z1,z2⟩:=key (.loop { r3 with state:=.exhausted,pending:=pending }) trivial (fun r e=>⟨_,rfl,by cases e; exact ⟨rfl,rfl,rfl,rfl,rfl⟩⟩);cases pending with
    |none=>exact ⟨_,R3,β,hQ,z1,z2,rfl⟩
    |some c=>
     refine wpIn_mono (hQ R3 _ β _ (aak.inRound b0) z1 (by show cT R3 s.ro _; rw [bu]; exact ⟨b0,st3.ext.bZ (e2.bZ YI),rfl⟩)) ?_;rintro e a'' U4 ⟨He,Rf,Yw,RW,C5,wC,Bd⟩;exact ⟨He,Rf,Yw,RW,C5,z2.trans wC,Bd⟩
   ·exact hQ.elim
def Mt (id:Nat) (Q:Bool→List GO→Prop):Exit→St→Prop:=fun e s=>match nth s.G id with
 |some (.loop _ _ fn sl n ps xm bd d _)=>match e with
  |.normal=>Q true (aC s.G id (.loop false none fn sl n ps xm bd d false))
  |.ret=>Q false (aC s.G id (.loop false (some .ret) fn sl n ps xm bd d true))
  |.exit i=>Q false (aC s.G id (.loop false (some (.exit i)) fn sl n ps xm bd d true))
  |_=>False
 |_=>False
def Hz (E:Env) (id:Nat) (body:Code) (Q:Bool→List GO→Prop):Exit→St→Prop:=fun e s=>match e with
 |.normal=>match nth s.G id with
  |some (.loop false p fn sl n ps xm bd d false)=>jv E body (Mt id Q) (s.bM (aC s.G id (.loop true p fn sl n ps xm bd d false)))
  |_=>False
 |_=>False
def DK:List Tmp→List AV→bz→bz
 |t :: ts,a :: l,r=>DK ts l (.put t (.v a) :: r)
 |_,_,r=>r
def St.round (id:Nat) (ab:bz) (n:Nat) (G:List GO):St:=⟨ab,[],G,[],some id,n⟩
theorem DL {R:aj} {w:World} {β:Nat→Nat}:∀ {ts:List Tmp} {l:List AV} {cs:List Value} {r:bz} {tmps:Array Value},uf R w β r tmps→aQ R w l cs→l.length=ts.length→(∀ t∈ts,t < tmps.size) →
  uf R w β (DK ts l r) ((ts.zip cs).foldl (fun tmps (t,a)=>tmps.setIfInBounds t a) tmps)
 |[],[],_,_,_,h,.nil,_,_=>h
 |t :: ts,a :: l,c :: cs,r,tmps,h,.cons hx hl,hlen,ht=>by
  have gJ:t < tmps.size:=ht t (by simp);simp only [DK,List.zip_cons_cons,List.foldl_cons];refine DL ?_ hl (by simpa using hlen) (fun t' h'=>by simpa using ht t' (by simp [h']));have:=uf.put (a:={ tmps:=tmps,defers:=[] }) h (d:=t) (x:=.v a) (c:=c) gJ hx;simpa [Act.put] using this
 |[],_ :: _,_,_,_,_,_,hlen,_=>by simp at hlen
 |_ :: _,[],_,_,_,_,_,hlen,_=>by simp at hlen
theorem Mu (l:List (Tmp × Value)):∀ tmps:Array Value,(l.foldl (fun (tmps:Array Value) (x:Tmp × Value)=>tmps.setIfInBounds x.1 x.2) tmps).size=tmps.size:=by
 induction l with
 |nil=>intro _; rfl
 |cons x l ih=>intro tmps; rw [List.foldl_cons,ih]; simp
theorem pg.intro {E:Env} {id:Nat} {args:List AV} {G:List GO} {Q:Bool→List GO→Prop} {fn:FuncId} {ab:bz} {n:Nat} {ps:List Tmp} {assign body:Code} {d:Nat} {p:Option Code}
  (hG:nth G id=some (.loop false p fn ab n ps assign body d false)) (hl:args.length=ps.length) (QP:∀ t∈ps,t < n)
  (h:jv E assign (Hz E id body Q) (St.round id (DK ps args ab) n G)):pg E id args G Q:=fun R w cs b hg hr hb=>by
 obtain ⟨⟨r,db,l1,l2,l3,l4,l5,l6,l7,l8,l9,l10⟩,l11⟩:=hg.obj id _ _ hG hb;have hlen:=hr.length;refine ⟨r,l1,by rw [l6]; simp; omega,?_⟩;have ai3:Step R w (fun _=>0) kg R w (fun _=>0) kg:=Step.refl _ _ _ _;have ai4:bi E R w (fun _=>0) (St.round id (DK ps args ab) n G) { tmps:=(r.params.zip ⟨cs⟩).foldl (fun tmps (t,a)=>tmps.setIfInBounds t a) r.tmps,defers:=[] }:=by
  have ae8:(r.params.zip ⟨cs⟩).foldl (fun (tmps:Array Value) (x:Tmp × Value)=>tmps.setIfInBounds x.1 x.2) r.tmps=(ps.zip cs).foldl (fun (tmps:Array Value) (x:Tmp × Value)=>tmps.setIfInBounds x.1 x.2) r.tmps:=by
   rw [← Array.foldl_toList];simp [l6]
  refine ⟨hg,⟨fun k cs hk=>?_,fun k k' c c' hk=>?_⟩,?_,?_,trivial⟩
  ·simp [St.round,fh] at hk
  ·simp [St.round,fh] at hk
  ·show uf _ _ _ _ _;have:=DL (ts:=ps) (l:=args) (cs:=cs) l4 hr hl (fun t ht=>by rw [l5]; exact QP t ht);rw [← ae8] at this;exact this
  ·show _=n;have:=Mu (ps.zip cs) r.tmps;rw [← ae8] at this;exact this.trans l5
 have Vr:∀ (k:Nat) (cs:List AV),fh (St.round id (DK ps args ab) n G).boxes k≠some cs:=fun k cs hk=>by simp [St.round,fh] at hk
 rw [l7,l8];refine roundIn_of_wpIn trivial (wpIn_mono (h R w (fun _=>0) _ (aak.inRound b) ai4 ⟨b,hb,rfl⟩) ?_);rintro e a1 w1 ⟨s1,R1,β1,hq,KV,st1,ai5⟩;unfold Hz at hq;cases e with
 |normal=>
  simp only at hq;split at hq
  ·rename_i p' fn' sl' n' ps' VG bd' d' hG1;have Se:nth R1.obj id=some (.bZ b):=st1.ext.bZ hb;obtain ⟨⟨r1,db1,m1,m2,m3,m4,m5,m6,m7,m8,m9,m10⟩,m11⟩:=KV.g.obj id _ _ hG1 Se;refine ⟨_,run_beginRound m1 m2,?_⟩;obtain ⟨z1,z2⟩:=KV.setObj (x':=.loop { r1 with state:=.busy }) (go':=.loop true p' fn' sl' n' ps' VG bd' d' false) Se m1 trivial trivial (fun r e=>⟨_,rfl,by cases e; exact ⟨rfl,rfl,rfl,rfl,rfl⟩⟩)
    ⟨⟨{ r1 with state:=.busy },db1,ku _ _ _ (bK m1),rfl,m3,m4.mono (sX (x':=.loop { r1 with state:=.busy }) m1 trivial trivial (fun r e=>⟨_,rfl,by cases e; exact ⟨rfl,rfl,rfl,rfl,rfl⟩⟩)),m5,m6,m7,m8,m9,m10⟩,m11⟩
   refine wpIn_mono (hq R1 _ β1 a1 (aak.inRound b) z1 (by show cT R1 s1.ro _; rw [ai5]; exact ⟨b,Se,rfl⟩)) ?_;rintro e2 a2 w2 ⟨s2,R2,β2,sT,I6,QY,JB⟩;unfold Mt at sT;split at sT
   ·rename_i bu2 p2 fn2 sl2 n2 ps2 as2 bd2 d2 dn2 hG2;have afa:=(st1.trans z2).trans QY;have QW:nth R2.obj id=some (.bZ b):=afa.ext.bZ hb;obtain ⟨⟨r2,db2,o1,o2,o3,o4,o5,o6,o7,o8,o9,F9⟩,wG⟩:=I6.g.obj id _ _ hG2 QW;have fin:∀ (j:Option Code),Hk E R w (fun b' G'=>G'=aC s2.G id (.loop false j fn2 sl2 n2 ps2 as2 bd2 d2 (!j.isNone))∧b'=j.isNone) (.returned (.bool j.isNone)) (w2.putObj b (.loop { r2 with state:=if j.isNone then .ready else .done,pending:=j })):=fun j=>by
     obtain ⟨y1,y2⟩:=I6.setObj (x':=.loop { r2 with state:=if j.isNone then .ready else .done,pending:=j }) (go':=.loop false j fn2 sl2 n2 ps2 as2 bd2 d2 (!j.isNone)) QW o1 trivial trivial (fun r e=>⟨_,rfl,by cases e; exact ⟨rfl,rfl,rfl,rfl,rfl⟩⟩)
      ⟨⟨{ r2 with state:=if j.isNone then .ready else .done,pending:=j },db2,ku _ _ _ (bK o1),by cases j <;> rfl,rfl,o4.mono (sX (x':=.loop { r2 with state:=if j.isNone then .ready else .done,pending:=j }) o1 trivial trivial (fun r e=>⟨_,rfl,by cases e; exact ⟨rfl,rfl,rfl,rfl,rfl⟩⟩)),o5,o6,o7,o8,o9,F9⟩,wG⟩
     exact ⟨_,_,R2,⟨rfl,rfl⟩,rfl,y1.g,C9 (afa.trans y2) Vr⟩
    have mk:∀ (j:Option Code),Q j.isNone (aC s2.G id (.loop false j fn2 sl2 n2 ps2 as2 bd2 d2 (!j.isNone)))→∃ v w',(Instr.endRound b j).run E.P w2=.ok v w'∧Hk E R w Q (.returned v) w':=fun j hQ=>by
     refine ⟨_,_,run_endRound j o1,?_⟩;obtain ⟨r',G',R',⟨h1,h2⟩,h3⟩:=fin j;subst h1; subst h2;exact ⟨_,_,R',hQ,h3⟩
    cases e2 with
    |normal=>exact mk none sT
    |ret=>exact mk (some .ret) sT
    |exit i=>exact mk (some (.exit i)) sT
    |_=>exact sT.elim
   ·exact sT.elim
  ·exact hq.elim
 |_=>exact hq.elim
end Go.Am
namespace Go.Am
open Go
section
variable {E:Env} {R R':aj} {w w':World} {β β':Nat→Nat} {s s':St} {a a':Act}
def bY (E:Env) (g:FuncId) (args:List AV) (Q:AV→Prop):Prop:=∀ G,eP E g args G (fun r G'=>G'=G∧Q r)
theorem bY.mono {g:FuncId} {args:List AV} {Q Q':AV→Prop} (h:bY E g args Q) (hq:∀ r,Q r→Q' r):bY E g args Q':=
 fun G=>(h G).mono fun r _ hh=>⟨hh.1,hq r hh.2⟩
theorem bY.of {g:FuncId} {args:List AV} {p:aM} {Q:p.T→Prop} (hc:aP 0 args=true) (hp:p.under 0=true)
  (h:eP E g args [] (fun r _=>∃ y,p.dec r=some y∧Q y)):bY E g args (fun r=>∃ y,r=p.enc y∧Q y):=fun G=>by
 refine ⟨h.1,fun R w cs hg hl=>?_⟩
 let R0:aj:=⟨R.I,[]⟩
 have m0:Mv R R0 0:=⟨fun _ _ h=>h,fun _ _ h=>absurd h (aas _)⟩;have hg0:il E R0 w []:=⟨rfl,fun id go ro h1 _=>by simp [nth] at h1,fun i j ri rj b h1=>by simp [R0,nth] at h1,hg.wf,fun g cs BG=>(hg.ft g cs BG).move m0 (dY _ (E.GV g cs BG)),hg.lo⟩;have Ac:aQ R0 w args cs:=hl.move m0 hc;refine (h.2 R0 w cs hg0 Ac).mono fun e w' he=>?_
 cases e with
 |panicked c=>exact he.elim
 |outgrown=>exact he.elim
 |returned c=>
  obtain ⟨r,G',R1,⟨y,hy,hQ⟩,gO,UR,st⟩:=he;have oW:∀ b,¬ Own R0 (fun _=>0) kg b:=fun b ho=>by
   obtain ⟨id,ro,h1,_⟩:=jk ho;simp [R0,nth] at h1
  let R2:aj:=⟨R1.I,R.obj⟩
  have e:Ext R w R2 w':=⟨st.ext.I,st.ext.cell,fun id ro h=>⟨ro,h,cQ.refl ro⟩,st.ext.lp⟩;have bD:∀ b,b < w.heap.size→w'.heap[b]?=w.heap[b]?:=fun b hb=>st.bD b hb (oW b)
  have im:∀ b o,b < w.heap.size→R1.I b o→R.I b o:=fun b o hb hi=>st.im b o hi hb (oW b)
  have hd:=p.wU hy;have m:Mv R1 R2 0:=⟨fun _ _ h=>h,fun _ _ h=>absurd h (aas _)⟩;refine ⟨p.enc y,G,R2,⟨rfl,y,rfl,hQ⟩,Rel.move m (p.fw y hp) (hd.jB _ _ _ gO),⟨hg.len,fun id go ro h1 h2=>?_,hg.inj,UR.wf,fun g cs BG=>(hg.ft g cs BG).mono e,UR.lo⟩,⟨e,st.os,st.tape,st.output,st.size,fun b hb _=>bD b hb,fun b _ ho=>?_,fun b o hi hb _=>im b o hb hi⟩⟩
  ·refine (hg.obj id go ro h1 h2).mono e (fun b hb=>bD b ?_) (fun b o hb hi=>im b o ?_ hi)
   ·exact (hg.obj id go ro h1 h2).lt hb
   ·exact (hg.obj id go ro h1 h2).lt hb
  ·exact ho
theorem jv.aja {c:Code} {Q Q':Exit→St→Prop} (h:jv E c (fun e s'=>aU s s'∧Q' e s') s)
  (hq:∀ e s',Q' e s'→∃ (t:dC) (v:t.ps.T),t.dec s s'=some v∧Q e (t.st s v)):jv E c Q s:=fun R w β a F hr hf=>by
 refine wpIn_mono (h R w β a F hr hf) ?_;rintro e a' w' ⟨s',R',β',⟨hx,hq'⟩,mW,lI,bu⟩;obtain ⟨t,v,hd,hQ⟩:=hq e s' hq';obtain ⟨h1,h2⟩:=dC.KW hx hr mW lI hd;exact ⟨_,_,β',hQ,h1,h2,rfl⟩
theorem jv.kl {c:Code} {Q:Exit→St→Prop} {l:List (Loc × Nat × TypeId)} (hs:Am.kl l s=some s') (h:jv E c Q s'):jv E c Q s:=fun R w β a F hr hf=>by
 obtain ⟨R1,k1,k2,k3,_⟩:=pf hr hs;refine wpIn_mono (h R1 w β a F k1 (by rw [k3]; exact hf.mono k2.ext)) ?_;rintro e a' w' ⟨s2,R2,β2,hq,I6,QY,JB⟩;exact ⟨s2,R2,β2,hq,I6,k2.trans QY,JB.trans k3⟩
end
end Go.Am
namespace Go.Am
open Go
def Sr (s:St) (dst:Option Tmp) (x:SV):Option (Bool × St × St):=match x with
 |.v (.ptr id 0)=>match nth s.G id with
  |some (.ke l pos)=>some (Nat.blt pos l.length,(s.bM (aC s.G id (.ke l (pos+(dE l pos).2)))).put dst (.v (.bW [.bool true,.int .i64 pos,.int .i32 (dE l pos).1])),s.put dst (.v (.bW [.bool false])))
  |_=>none
 |_=>none
theorem Mw {s:St} {dst:Option Tmp} {x:SV} {b:Bool} {s1 s2:St} (h:Sr s dst x=some (b,s1,s2)):qi s dst x=some (bif b then s1 else s2):=by
 unfold Sr at h;split at h
 ·split at h
  ·rename_i l pos hg;cases h;simp only [qi,hg];cases Nat.blt pos l.length <;> rfl
  ·cases h
 ·cases h
theorem N6 {e:EK} {k:AV}:∀ {es:List (AV × AV)},cW e k es=true→me e k es=some (ij e k es)
 |[],_=>rfl
 |(k',v) :: l,h=>by
  simp only [cW,aaa] at h;obtain ⟨b,hb⟩:=aaF.1 h.1;simp only [me,ij,E1,hb];cases b
  ·simp only [cond_false]; exact N6 h.2
  ·rfl
theorem Ss {e:EK} {k v:AV}:∀ {es:List (AV × AV)},cW e k es=true→zS e k v es=some (eu e k v es)
 |[],_=>rfl
 |(k',v') :: l,h=>by
  simp only [cW,aaa] at h;obtain ⟨b,hb⟩:=aaF.1 h.1;simp only [zS,eu,E1,hb];cases b
  ·simp only [cond_false,Ss h.2]
  ·rfl
mutual
def aM.flat:aM→Bool
 |.int _=>true
 |.bool=>true
 |.str=>true
 |.agg ps=>ps.flat
 |.aY _ _ p=>p.flat
 |_=>false
def aR.flat:aR→Bool
 |.nil=>true
 |.cons p ps=>p.flat&&ps.flat
end
theorem JC {α:Type} {f:AV→Bool} {d:AV→α} {g:α→AV} (h:∀ a,f a=true→g (d a)=a):∀ {es:List AV},allFit f es=true→(es.map d).map g=es
 |[],_=>rfl
 |a :: l,hl=>by
  simp only [allFit,aaa] at hl;rw [List.map_cons,List.map_cons,h a hl.1,JC h hl.2]
mutual
theorem aM.pu:∀ {p:aM},p.flat=true→∀ {a:AV},p.fits a=true→p.enc (p.bC a)=a
 |.int k,_,a,h=>by
  cases a <;> first | (cases h; done) | skip
  have hk:kEq _ _=true:=h;rw [Le hk]; rfl
 |.bool,_,a,h=>by cases a <;> first | (cases h; done) | rfl
 |.str,_,a,h=>by cases a <;> first | (cases h; done) | rfl
 |.agg ps,hp,a,h=>by
  cases a <;> first | (cases h; done) | skip
  exact congrArg AV.agg (aR.pu (ps:=ps) hp h)
 |.bW _,hp,_,_=>by cases hp
 |.list _ _,hp,_,_=>by cases hp
 |.own _ _ _,hp,_,_=>by cases hp
 |.aY id sz p,hp,a,h=>by
  cases a <;> first | (cases h; done) | skip
  rename_i k bP es;cases k <;> first | (cases h; done) | skip
  rename_i mc j;simp only [aM.fits,aaa] at h;have e1:=aah h.1.1;have e2:=aah h.1.2;subst e1 e2;have hp:p.flat=true:=hp;show AV.list (.aY id j) sz ((es.map p.bC).map p.enc)=_;rw [JC (fun a ha=>aM.pu hp ha) h.2]
 |.kQ _,hp,_,_=>by cases hp
 |.two _ _,hp,_,_=>by cases hp
theorem aR.pu:∀ {ps:aR},ps.flat=true→∀ {l:List AV},ps.fits l=true→ps.enc (ps.bC l)=l
 |.nil,_,l,h=>by
  cases l with
  |nil=>rfl
  |cons _ _=>cases h
 |.cons p .nil,hp,l,h=>by
  simp only [aR.flat,aaa] at hp;cases l with
  |nil=>cases h
  |cons a l=>
   simp only [aR.fits,aaa] at h;cases l with
   |nil=>exact congrArg (fun x=>[x]) (aM.pu hp.1 h.1)
   |cons _ _=>cases h.2
 |.cons p (.cons q ps),hp,l,h=>by
  rw [aR.flat,aaa] at hp;cases l with
  |nil=>cases h
  |cons a l=>
   rw [aR.fits,aaa] at h;have h1:=aM.pu hp.1 h.1;have h2:=aR.pu (ps:=.cons q ps) hp.2 h.2;show p.enc (p.bC a) :: (aR.cons q ps).enc ((aR.cons q ps).bC l)=a :: l;rw [h1,h2]
end
def Cb (E:Env) (s:St) (t:TypeId) (m k:SV):Option (Bool × AV × Bool):=match Ra E s.G t,E.ti t,mapOf s m,k with
 |some p,some i,some es,.v k=>match i.k with
  |.map kt _ (some z)=>match E.ti kt with
   |some j=>if j.ek.plain&&lG j.ek k&&p.flat then
     some (cW j.ek k es&&p.fits (bS j.ek k (IA E s.G t z) es),p.enc (p.bC (bS j.ek k (IA E s.G t z) es)),(ij j.ek k es).isSome)
    else none
   |none=>none
  |_=>none
 |_,_,_,_=>none
theorem yG {E:Env} {s:St} {t:TypeId} {m k:SV} {v:AV} {b:Bool} (h:Cb E s t m k=some (true,v,b)):qh E s t m k=some (v,b):=by
 unfold Cb at h;split at h
 ·rename_i p i es k h1 h2 h3;split at h
  ·rename_i kt et z hk;split at h
   ·rename_i j hj;split at h
    ·rename_i hc;simp only [aaa] at hc;injection h with h;injection h with h4 h;injection h with h5 h6;rw [aaa] at h4;rw [aM.pu hc.2 h4.2] at h5;have e:me j.ek k es=some (ij j.ek k es):=N6 h4.1;have vu:(j.ek.plain&&lG j.ek k)=true:=by rw [hc.1.1,hc.1.2]; rfl
     have e0:mU E s t m (.v k)=some ((ij j.ek k es).getD z,(ij j.ek k es).isSome):=by
      simp only [mU,h2,h3,hk,hj,vu,if_true,e];cases ij j.ek k es <;> rfl
     unfold qh;rw [e0];unfold bS at h5;cases hg:ij j.ek k es with
     |none=>
      rw [hg] at h5 h6;subst h5 h6;rfl
     |some v'=>
      rw [hg] at h5 h6;subst h5 h6;rfl
    ·cases h
   ·cases h
  ·cases h
 ·cases h
def Cc (E:Env) (s:St) (t:TypeId) (m k x:SV):Option (Bool × St):=match E.ti t,m,k,x with
 |some i,.v (.map id),.v k,.v x=>match i.k,nth s.G id with
  |.map kt _ _,some (.map es)=>match E.ti kt with
   |some j=>if j.ek.plain&&lG j.ek k then some (cW j.ek k es,s.bM (aC s.G id (.map (eu j.ek k x es)))) else none
   |none=>none
  |_,_=>none
 |_,_,_,_=>none
theorem yH {E:Env} {s s':St} {t:TypeId} {m k x:SV} (h:Cc E s t m k x=some (true,s')):iV E s t m k x=some s':=by
 unfold Cc at h;split at h
 ·rename_i i id k x h1;split at h
  ·rename_i kt _ _ es hk hg;split at h
   ·rename_i j hj;split at h
    ·rename_i hc;injection h with h;injection h with h4 h5;simp only [iV,h1,hk,hg,hj,hc,if_true,Ss h4,h5]
    ·cases h
   ·cases h
  ·cases h
 ·cases h
def Su (E:Env) (s:St) (dst:Option Tmp) (l:List AV) (tys:List TypeId):Option (Bool × St):=none
theorem Mx {E:Env} {s s':St} {dst:Option Tmp} {l:List AV} {tys:List TypeId} (h:Su E s dst l tys=some (true,s')):dG E s dst .copy l tys=some (true,s'):=by
 unfold Su at h;cases h
def Cd (s:St) (dst:Option Tmp) (elem esz bG:Nat) (k:LK) (sz:Nat) (es ys:List AV):Option (Bool × St × Bool × St):=
 match k with
 |.nil=>some (ys.isEmpty,s.put dst (.v (.list .nil sz es)),decide ((es.length+ys.length) * bG≤140737488355328),
   (s.bM (s.G++[.tok (es.length+ys.length) esz elem])).put dst (.v (.list (.own s.G.length) esz (es++ys))))
 |.full=>if aag sz esz then some (ys.isEmpty,s.put dst (.v (.list .full sz es)),decide ((es.length+ys.length) * bG≤140737488355328),
   (s.bM (s.G++[.tok (es.length+ys.length) esz elem])).put dst (.v (.list (.own s.G.length) esz (es++ys)))) else none
 |.own id=>match nth s.G id with
  |some (.tok f bP e')=>if aag bP esz&&aag e' elem&&aag sz esz then
    some (false,s,decide (f=es.length)&&decide ((es.length+ys.length) * bG≤140737488355328),
     (s.bM (Rb s.G id ys.length f esz elem)).put dst (.v (.list (.own id) esz (es++ys)))) else none
  |_=>none
 |.aY id j=>match nth s.G id with
  |some (.aY fs bP e')=>if aag bP esz&&aag e' elem&&aag sz esz then
    some (ys.isEmpty,s.put dst (.v (.list (.aY id j) sz es)),K9 fs j es.length&&decide ((es.length+ys.length) * bG≤140737488355328),
     (s.bM (aC s.G id (.aY (CA fs j (es.length+ys.length)) esz elem))).put dst (.v (.list (.aY id j) esz (es++ys)))) else none
  |_=>none
 |.iu=>none
def HA (s:St) (dst:Option Tmp) (elem esz bG id f off sz len:Nat) (ys:List AV):Option (Bool × St × Bool × St):=match nth s.G id with
 |some (.da es bP e')=>if aag bP esz&&aag e' elem&&aag sz esz then
   some (false,s,decide (f=es.length)&&decide (off=0)&&decide (len=f)&&decide ((es.length+ys.length) * bG≤140737488355328),
    (s.bM (aC s.G id (.da (es++ys) esz elem))).put dst (.v (.ey id (es.length+ys.length) 0 esz (es.length+ys.length)))) else none
 |_=>none
def HB (E:Env) (s:St) (dst:Option Tmp) (l:List AV) (tys:List TypeId):Option (Bool × St × Bool × St):=match l,tys with
 |[.list k sz es,.list _ bP ys],[t,u]=>match E.ti t with
  |some i=>match i.k with
   |.sl elem esz _ bG (some z)=>
    if aag bP esz&&aag t u&&aar 1 esz&&aar 1 bG&&aag z.cells.length esz&&z.ba then
     Cd s dst elem esz bG k sz es ys
    else none
   |_=>none
  |none=>none
 |[.ey id f off sz len,.list _ bP ys],[t,u]=>match E.ti t with
  |some i=>match i.k with
   |.sl elem esz _ bG (some z)=>
    if aag bP esz&&aag t u&&aar 1 esz&&aar 1 bG&&aag z.cells.length esz&&z.ba then HA s dst elem esz bG id f off sz len ys else none
   |_=>none
  |none=>none
 |[.list k sz es,.str bs],[t,u]=>match E.ti t,E.ti u with
  |some i,some j=>match i.k,j.k with
   |.sl elem esz _ bG (some z),.str=>
    if aag esz 1&&aar 1 bG&&aag z.cells.length esz&&z.ba then Cd s dst elem esz bG k sz es (bs.map Iy) else none
   |_,_=>none
  |_,_=>none
 |_,_=>none
theorem yI {s s1 s2:St} {dst:Option Tmp} {elem esz bG:Nat} {k:LK} {sz:Nat} {es ys:List AV} {b c:Bool} (h:Cd s dst elem esz bG k sz es ys=some (b,s1,c,s2)) (hc:b=false→c=true) :
  ∃ v G',gD s.G elem esz bG (.list k sz es) ys=some (true,v,G')∧(s.bM G').put dst (.v v)=bif b then s1 else s2:=by
 unfold Cd at h;cases k with
 |nil=>
  cases h;cases ys with
  |nil=>exact ⟨_,_,rfl,rfl⟩
  |cons y ys=>
   have hc:=hc rfl;exact ⟨_,_,by simp only [gD,hc],rfl⟩
 |full=>
  simp only at h;cases hs:aag sz esz with
  |false=>rw [hs] at h; cases h
  |true=>
   rw [hs] at h;cases h;cases ys with
   |nil=>exact ⟨_,_,rfl,rfl⟩
   |cons y ys=>
    have hc:=hc rfl;exact ⟨_,_,by simp only [gD,hs,if_true,hc],rfl⟩
 |own id=>
  simp only at h;split at h
  ·rename_i f bP e' hg;split at h
   ·rename_i dQ;cases h;have hc:=hc rfl;cases ys with
    |nil=>
     simp only [aaa] at dQ;have e1:=aah dQ.1.1;have e2:=aah dQ.1.2;have e3:=aah dQ.2;subst e1; subst e2; subst e3;refine ⟨_,_,rfl,?_⟩;simp only [cond_false,Rb,List.length_nil,Nat.add_zero,xS hg,List.append_nil]
    |cons y ys=>exact ⟨_,_,by simp only [gD,hg,dQ,if_true,hc],rfl⟩
   ·cases h
  ·cases h
 |aY id j=>
  simp only at h;split at h
  ·rename_i fs bP e' hg;split at h
   ·rename_i dQ;cases h;cases ys with
    |nil=>exact ⟨_,_,rfl,rfl⟩
    |cons y ys=>
     have hc:=hc rfl;exact ⟨_,_,by simp only [gD,hg,dQ,if_true,hc],rfl⟩
   ·cases h
  ·cases h
 |iu=>cases h
theorem HC {s s1 s2:St} {dst:Option Tmp} {elem esz bG id f off sz len:Nat} {ys:List AV} {b c:Bool} (h:HA s dst elem esz bG id f off sz len ys=some (b,s1,c,s2)) (hc:b=false→c=true) :
  ∃ v G',gD s.G elem esz bG (.ey id f off sz len) ys=some (true,v,G')∧(s.bM G').put dst (.v v)=bif b then s1 else s2:=by
 unfold HA at h;split at h
 ·rename_i es bP e' hg;split at h
  ·rename_i dQ;cases h;have hc:=hc rfl;cases ys with
   |nil=>
    simp only [aaa,decide_eq_true_eq] at hc dQ;have e1:=aah dQ.1.1;have e2:=aah dQ.1.2;have e3:=aah dQ.2;obtain ⟨⟨⟨h1,h2⟩,h3⟩,_⟩:=hc;subst e1; subst e2; subst e3; subst h1; subst h2; subst h3;refine ⟨_,_,rfl,?_⟩;simp only [cond_false,List.length_nil,Nat.add_zero,xS hg,List.append_nil]
   |cons y ys=>exact ⟨_,_,by simp only [gD,hg,dQ,if_true,hc],rfl⟩
  ·cases h
 ·cases h
theorem HD {E:Env} {s s1 s2:St} {dst:Option Tmp} {l:List AV} {tys:List TypeId} {b c:Bool} (h:HB E s dst l tys=some (b,s1,c,s2)) (NN:b=false→c=true):dG E s dst .append l tys=some (true,bif b then s1 else s2):=by
 unfold HB at h;split at h
 ·rename_i k sz es k' bP ys t u;split at h
  ·rename_i i hi;split at h
   ·rename_i elem esz a1 bG z hk;split at h
    ·rename_i hc;have vu:((aag bP esz || ys.isEmpty)&&aag t u&&aar 1 esz&&aar 1 bG&&aag z.cells.length esz&&z.ba)=true:=by
      simp only [aaa] at hc ⊢;obtain ⟨⟨⟨⟨⟨c1,c2⟩,c3⟩,c4⟩,c5⟩,c6⟩:=hc;exact ⟨⟨⟨⟨⟨by rw [c1]; rfl,c2⟩,c3⟩,c4⟩,c5⟩,c6⟩
     obtain ⟨v,G',h1,h2⟩:=yI h NN;simp only [dG,hi,hk,vu,if_true,h1,h2]
    ·cases h
   ·cases h
  ·cases h
 ·rename_i id f off sz len k' bP ys t u;split at h
  ·rename_i i hi;split at h
   ·rename_i elem esz a1 bG z hk;split at h
    ·rename_i hc;have vu:((aag bP esz || ys.isEmpty)&&aag t u&&aar 1 esz&&aar 1 bG&&aag z.cells.length esz&&z.ba)=true:=by
      simp only [aaa] at hc ⊢;obtain ⟨⟨⟨⟨⟨c1,c2⟩,c3⟩,c4⟩,c5⟩,c6⟩:=hc;exact ⟨⟨⟨⟨⟨by rw [c1]; rfl,c2⟩,c3⟩,c4⟩,c5⟩,c6⟩
     obtain ⟨v,G',h1,h2⟩:=HC h NN;simp only [dG,hi,hk,vu,if_true,h1,h2]
    ·cases h
   ·cases h
  ·cases h
 ·rename_i k sz es bs t u;split at h
  ·rename_i i j hi hj;split at h
   ·rename_i elem esz a1 bG z hk hjk;split at h
    ·rename_i hc;obtain ⟨v,G',h1,h2⟩:=yI h NN;simp only [dG,hi,hj,hk,hjk,hc,if_true,h1,h2]
    ·cases h
   ·cases h
  ·cases h
 ·cases h
end Go.Am
namespace Go.Am
open Go
def aaI (E:Env) (cut wk:Bool) (t:TypeId) (r:AV) (G:List GO):Option (Bool × AV × List GO):=match r with
 |.ey id f 0 sz len=>match nth G id,E.ti t with
  |some (.da es bP _),some i=>match i.k with
   |.sl _ esz _ _ _=>if aag esz sz&&aag bP sz then
     bif cut then some (decide (f=es.length)&&decide (len≤es.length)&&aZ (FC wk es),.list .iu sz (FC wk (es.take len)),aC G id .dead)
     else some (decide (f=es.length)&&decide (len=es.length)&&aZ (FC wk es),.list .iu sz (FC wk es),aC G id .dead)
    else none
   |_=>none
  |_,_=>none
 |.ob id 0 sz len _=>match nth G id,E.ti t,E.U1 t with
  |some (.row cs _),some i,some p=>match i.k with
   |.sl _ esz agg _ _=>if aag esz sz&&aar 1 sz&&(agg || aag sz 1)&&p.under 0 then
     some (aag cs.length (len * sz)&&allFit (fun e=>p.fits e&&e.ba&&(agg || e.one)) (kJ agg sz len cs),.list .iu sz ((kJ agg sz len cs).map fun e=>p.enc (p.bC e)),aC G id .dead)
    else none
   |_=>none
  |_,_,_=>none
 |.agg cs=>match rq wk cs G with
  |(c,ig,G')=>some (c,.agg ig,G')
 |.ptr id 0=>match nth G id with
  |some (.row cs _)=>some (aZ cs,.ep cs,aC G id .dead)
  |_=>none
 |_=>none
def DM (E:Env) (cut wk:Bool):List TypeId→List AV→List GO→Bool × List AV × List GO
 |t :: ts,r :: rs,G=>match aaI E cut wk t r G with
  |some (c,r',G')=>match DM E cut wk ts rs G' with
   |(c',Sv,N7)=>(c&&c',r' :: Sv,N7)
  |none=>match DM E cut wk ts rs G with
   |(c',Sv,N7)=>(c',r :: Sv,N7)
 |_,rs,G=>(true,rs,G)
def aaJ {X:Type} (E:Env) (cut wk:Bool) (ts:List TypeId) (K:AV→List GO→Option X) (r:AV) (G:List GO):Option X:=match r with
 |.bW rs=>match DM E cut wk ts rs G with
  |(c,Sv,G')=>bif c then K (.bW Sv) G' else none
 |r=>match DM E cut wk ts [r] G with
  |(c,[r'],G')=>bif c then K r' G' else none
  |_=>none
section
variable {E:Env} {R:aj} {w:World}
theorem DN {R:aj} {b:Nat} (hI:∀ o,R.I b o):∀ {cs:List AV} {vs:List Value} {o:Nat},aQ R w cs vs→(∀ v∈vs,v.oneCell'=true)→(∀ (j:Nat) (v:Value),vs[j]?=some v→w.cell? ⟨b,o+j,none⟩=some v)→ik R w b o cs
 |[],_,o,_,_,_=>.nil
 |a :: cs,_,o,.cons h t,h1,hc=>.cons (hc 0 _ rfl) (h1 _ (by simp)) (hI o) h (DN hI t (fun v hv=>h1 v (by simp [hv])) fun j v hj=>by
   have:=hc (j+1) v (by simpa using hj);rwa [show o+(j+1)=o+1+j by omega] at this)
theorem DO {R:aj} {b:Nat} {p:aM} {agg:Bool} {sz:Nat} (hI:∀ o,R.I b o) (hp:p.under 0=true) (gJ:(agg || aag sz 1)=true) (ajb:1≤sz):∀ (n:Nat) {cs:List AV} {vs:List Value} {o:Nat},aQ R w cs vs→(∀ v∈vs,v.oneCell'=true)→cs.length=n * sz →
  (∀ (j:Nat) (v:Value),vs[j]?=some v→w.cell? ⟨b,o+j,none⟩=some v)→allFit (fun e=>p.fits e&&e.ba&&(agg || e.one)) (kJ agg sz n cs)=true→kn R w b o sz ((kJ agg sz n cs).map fun e=>p.enc (p.bC e))
 |0,_,_,_,_,_,_,_,_=>.nil
 |n+1,cs,vs,o,h,h1,hl,hc,hf=>by
  simp only [kJ,allFit,aaa] at hf;obtain ⟨⟨⟨G9,hf2⟩,hf4⟩,hf3⟩:=hf;have hlen:=h.length;have hle:sz≤cs.length:=by rw [hl,Nat.succ_mul]; omega
  have dk:=p.eM G9;have qL:(mkD agg (cs.take sz)).cells=cs.take sz:=by
   cases agg with
   |true=>rfl
   |false=>
    have Rp:sz=1:=by simpa using gJ
    subst Rp
    match cs,hle with
    |a :: cs,_=>
     show AV.cells a=[a];have ho:a.one=true:=by simpa [mkD,gr] using hf4
     cases a <;> first | rfl | simp [AV.one] at ho
  have hw:=dk.cells hf2;rw [qL] at hw;have hA:ik R w b o (cs.take sz):=DN hI (h.take sz) (fun v hv=>h1 v (List.mem_of_mem_take hv)) fun j v hj=>hc j v (by
   rw [List.getElem?_take] at hj;split at hj
   ·exact hj
   ·cases hj)
  refine .cons (by rw [← hw.length,List.length_take,Nat.min_eq_left hle]) (by rw [dk.bW]; exact hf2) (qP (p.fw _ hp)) (hw.Rk hA) ?_;exact DO hI hp gJ ajb n (h.drop sz) (fun v hv=>h1 v (List.mem_of_mem_drop hv)) (by rw [List.length_drop,hl,Nat.succ_mul]; omega) (fun j v hj=>by
   rw [List.getElem?_drop] at hj;have:=hc _ _ hj;rwa [show o+(sz+j)=o+sz+j by omega] at this) hf3
theorem VH {cut wk:Bool} {t:TypeId} {r r':AV} {G G':List GO} {c:Value} (hg:il E R w G) (hr:Rel R w r c) (h:aaI E cut wk t r G=some (true,r',G')) :
  ∃ R',il E R' w G'∧Rel R' w r' c∧Ext R w R' w∧R'.obj=R.obj∧∀ b o,R'.I b o→R.I b o∨Live R b:=by
 unfold aaI at h;split at h
 ·rename_i id f sz len;obtain ⟨ro,bu⟩:∃ ro,nth R.obj id=some ro:=by
   cases hr with
   |mh q _=>exact ⟨_,q⟩
   |ey q _ _=>exact ⟨_,q⟩
  split at h
  ·rename_i es bP el i hid hi;split at h
   ·split at h
    ·rename_i hc;rw [aaa] at hc;have q1:=aah hc.2;subst q1;cases cut with
     |true=>
      simp only [cond_true] at h;injection h with h; injection h with h1 h; injection h with h2 h3;subst h2 h3;rw [aaa,aaa,decide_eq_true_eq,decide_eq_true_eq] at h1;obtain ⟨h1,lE⟩:=h1;obtain ⟨R',r1,r2,r3,r4,r5⟩:=pd (wk:=wk) hg hid h1.1 h1.2 lE bu;exact ⟨R',r1,r5 c hr,r2,r3,fun b o hi=>(r4 b o hi).imp_right fun hb=>⟨id,ro,bu,hb⟩⟩
     |false=>
      simp only [cond_false] at h;injection h with h; injection h with h1 h; injection h with h2 h3;subst h2 h3;rw [aaa,aaa,decide_eq_true_eq,decide_eq_true_eq] at h1;obtain ⟨h1,lE⟩:=h1;obtain ⟨R',r1,r2,r3,r4,r5⟩:=pd (wk:=wk) hg hid h1.1 (Nat.le_of_eq h1.2) lE bu;have r6:=r5 c hr;rw [h1.2,List.take_length] at r6;exact ⟨R',r1,r6,r2,r3,fun b o hi=>(r4 b o hi).imp_right fun hb=>⟨id,ro,bu,hb⟩⟩
    ·cases h
   ·cases h
  ·cases h
 ·rename_i id sz len cap;split at h
  ·rename_i cs i p hid hi hp;split at h
   ·rename_i el esz agg eb z hk;split at h
    ·rename_i hc;simp only [aaa] at hc;injection h with h;injection h with h1 h;injection h with h2 h3;subst h2 h3;rw [aaa] at h1;cases hr with
     | @ob _ _ _ _ _ b hb jZ=>
     obtain ⟨vs,k1,k2,k3,k4⟩:=hg.obj id _ _ hid hb;have IL:Live R b:=⟨id,_,hb,rfl⟩;have e:=ym R w b;have cE:=bK k1;refine ⟨R.all b,⟨by show R.obj.length=_; rw [gV]; exact hg.len,fun mc go ro q1 q2=>?_,hg.inj,fun b' o ho=>?_,fun g cs BG=>(hg.ft g cs BG).mono e,hg.lo⟩,?_,e,rfl,fun b' o ho=>?_⟩
     ·rcases cJ q1 with ⟨rfl,rfl,_⟩|⟨df,q1⟩
      ·have:ro=.bZ b:=aaG (q2.symm.trans hb);subst this;exact cE
      ·refine (hg.obj mc go ro q1 q2).mono e (fun _ _=>rfl) (fun b' o oh ho=>?_);rcases ho with ho|ho
       ·exact ho
       ·subst ho;exact absurd (hg.inj id mc _ _ b' hb q2 rfl oh) df
     ·rcases ho with ho|ho
      ·exact hg.wf b' o ho
      ·subst ho; exact cE
     ·refine Rel.list (DO (R:=R.all b) (fun o=>Or.inr rfl) hc.2 hc.1.2 (Nat.le_of_ble_eq_true hc.1.1.2) len (k2.mono e) k3 (aah h1.1) (fun j v hj=>?_) h1.2) ?_ jZ trivial
      ·simp only [World.cell?,k1];simpa using hj
      ·rw [List.length_map];have:∀ (n:Nat) (l:List AV),(kJ agg sz n l).length=n:=by
        intro n
        induction n with
        |zero=>intro l; rfl
        |succ n ih=>intro l; simp [kJ,ih]
       rw [this]
     ·rcases ho with ho|ho
      ·exact .inl ho
      ·subst ho; exact .inr IL
    ·cases h
   ·cases h
  ·cases h
 ·rename_i cs;cases h2:rq wk cs G with
  |mk c' q=>
  obtain ⟨ig,G2⟩:=q;rw [h2] at h;injection h with h; injection h with h1 h; injection h with h3 h4;subst h1 h3 h4;cases hr with
  |agg hr rC=>
  obtain ⟨R',r1,r2,r3,r4,r5⟩:=yp hg hr h2;exact ⟨R',r1,.agg r2 rC,r3,r4,r5⟩
 ·-- an object's cells never change again
  rename_i id;split at h
  ·rename_i cs el hid;injection h with h; injection h with h1 h; injection h with h2 h3;subst h2 h3;cases hr with
   | @ptr _ _ b bu=>
   obtain ⟨vs,b1,b2,b3,b4⟩:=hg.obj id _ _ hid bu;have r2:=ym R w b;have r1:=hg.freeze bu rfl (show jW (R.all b) w .dead (.bZ b) from bK b1);refine ⟨R.all b,r1,Rel.ep (ik.make (b2.mono r2) b3 (fun j v hv=>?_) (fun j _=>.inr rfl)),r2,rfl,fun b' o hi=>?_⟩
   ·rw [rD b1,Nat.zero_add];exact hv
   ·rcases hi with hi|rfl
    ·exact .inl hi
    ·exact .inr ⟨id,_,bu,rfl⟩
  ·cases h
 ·cases h
theorem Ce {cut wk:Bool}:∀ {ts:List TypeId} {rs Sv:List AV} {G G':List GO} {cs:List Value} {R:aj},il E R w G→aQ R w rs cs→DM E cut wk ts rs G=(true,Sv,G') →
  ∃ R',il E R' w G'∧aQ R' w Sv cs∧Ext R w R' w∧R'.obj=R.obj∧∀ b o,R'.I b o→R.I b o∨Live R b
 |[],rs,Sv,G,G',cs,R,hg,hr,h=>by
  cases rs <;> (simp only [DM] at h; cases h; exact ⟨R,hg,hr,Ext.refl R w,rfl,fun _ _ h=>.inl h⟩)
 |_ :: _,[],Sv,G,G',cs,R,hg,hr,h=>by
  simp only [DM] at h; cases h; exact ⟨R,hg,hr,Ext.refl R w,rfl,fun _ _ h=>.inl h⟩
 |t :: ts,r :: rs,Sv,G,G',cs,R,hg,hr,h=>by
  cases hr with
  |cons h0 hr=>
  unfold DM at h;split at h
  ·rename_i c r' G1 h1;cases h2:DM E cut wk ts rs G1 with
   |mk c' q=>
   obtain ⟨rs2,G2⟩:=q;rw [h2] at h;simp only [Prod.mk.injEq,aaa] at h;obtain ⟨⟨rfl,rfl⟩,rfl,rfl⟩:=h;obtain ⟨R1,a1,a2,a3,a4,a5⟩:=VH hg h0 h1;obtain ⟨R2,b1,b2,b3,b4,b5⟩:=Ce a1 (hr.mono a3) h2;refine ⟨R2,b1,.cons (a2.mono b3) b2,a3.trans b3,b4.trans a4,fun b o ho=>?_⟩;rcases b5 b o ho with ho|ho
   ·exact a5 b o ho
   ·obtain ⟨id,ro,q1,q2⟩:=ho;rw [a4] at q1;exact .inr ⟨id,ro,q1,q2⟩
  ·cases h2:DM E cut wk ts rs G with
   |mk c' q=>
   obtain ⟨rs2,G2⟩:=q;rw [h2] at h;simp only [Prod.mk.injEq] at h;obtain ⟨rfl,rfl,rfl⟩:=h;obtain ⟨R2,b1,b2,b3,b4,b5⟩:=Ce hg hr h2;exact ⟨R2,b1,.cons (h0.mono b3) b2,b3,b4,b5⟩
theorem eP.frz {g:FuncId} {args:List AV} {G:List GO} {X:Type} {cut wk:Bool} {ts:List TypeId} {K:AV→List GO→Option X} {x:X} (h:eP E g args G (fun r G'=>aaJ E cut wk ts K r G'=some x)):eP E g args G (fun r G'=>K r G'=some x):=
 ⟨h.1,fun R w cs hg hl=>(h.2 R w cs hg hl).mono fun e w' he=>by
  cases e with
  |panicked c=>exact he.elim
  |outgrown=>exact he.elim
  |returned c=>
   obtain ⟨r,G',R1,hq,gO,UR,st⟩:=he;have fin:∀ (r':AV) (G2:List GO) (R2:aj),K r' G2=some x→il E R2 w' G2→Rel R2 w' r' c→Ext R1 w' R2 w'→R2.obj=R1.obj→(∀ b o,R2.I b o→R1.I b o∨Live R1 b)→FV E R w (fun r G'=>K r G'=some x) (.returned c) w':=by
    intro r' G2 R2 k1 k2 k3 k4 k5 k6;have live:∀ b,Live R2 b→Live R1 b:=fun b ⟨id,ro,q1,q2⟩=>⟨id,ro,by rw [← k5]; exact q1,q2⟩
    refine ⟨r',G2,R2,k1,k3,k2,⟨st.ext.trans k4,st.os,st.tape,st.output,st.size,st.bD,fun b hb ho=>?_,fun b o hi hb hn=>?_⟩⟩
    ·rcases ho with ho|⟨k,cs,hk,rfl⟩
     ·exact st.own b hb (.inl (live b ho))
     ·simp [kg,fh] at hk
    ·rcases k6 b o hi with hi|hi
     ·exact st.im b o hi hb hn
     ·exact absurd (st.own b hb (.inl hi)) hn
   unfold aaJ at hq;split at hq
   ·rename_i rs;cases gO with
    |bW gO=>
    cases h2:DM E cut wk ts rs G' with
    |mk c' q=>
    obtain ⟨rs2,G2⟩:=q;rw [h2] at hq;cases c' with
    |false=>cases hq
    |true=>
     obtain ⟨R2,b1,b2,b3,b4,b5⟩:=Ce UR gO h2;exact fin (.bW rs2) G2 R2 hq b1 (.bW b2) b3 b4 b5
   ·split at hq
    ·rename_i c' r' G2 h2;cases c' with
     |false=>cases hq
     |true=>
      obtain ⟨R2,b1,b2,b3,b4,b5⟩:=Ce UR (.cons gO .nil) h2;cases b2 with
      |cons b2 _=>exact fin r' G2 R2 hq b1 b2 b3 b4 b5
    ·cases hq⟩
end
end Go.Am
namespace Go.Am
open Go
inductive RP
 |YJ (p:aM)
 |map (pe:aM)
 |ep (ps:aR)
def RP.T:RP→Type
 |.YJ p=>p.T
 |.map pe=>List pe.T
 |.ep ps=>ps.T
def RP.enc (n:Nat):(p:RP)→p.T→AV
 |.YJ p,x=>p.enc x
 |.map _,_=>.map n
 |.ep ps,x=>.ep (ps.enc x)
def RP.My:(p:RP)→p.T→List GO
 |.YJ _,_=>[]
 |.map pe,(x:List pe.T)=>[.map (az (x.map pe.enc))]
 |.ep _,_=>[]
def RP.no:RP→Nat
 |.map _=>1
 |_=>0
def Ar:List RP→Type
 |[]=>Unit
 |[p]=>p.T
 |p :: q :: l=>p.T × Ar (q :: l)
def uP:(n:Nat)→(l:List RP)→Ar l→List AV
 |_,[],_=>[]
 |n,[p],x=>[p.enc n x]
 |n,p :: q :: l,x=>p.enc n x.1 :: uP (n+p.no) (q :: l) x.2
def kF:(l:List RP)→Ar l→List GO
 |[],_=>[]
 |[p],x=>p.My x
 |p :: q :: l,x=>p.My x.1++kF (q :: l) x.2
structure RF where
 bW:Bool
 l:List RP
def RF.val (f:RF) (n:Nat) (x:Ar f.l):AV:=bif f.bW then .bW (uP n f.l x) else gr (uP n f.l x)
def RP.is:RP→AV→Bool
 |.YJ p,v=>match p with
  |.kQ u=>fy v u
  |_=>true
 |.map _,v=>match v with
  |.map _=>true
  |_=>false
 |.ep _,v=>match v with
  |.ep _=>true
  |_=>false
def Sw:List RP→List AV→Bool
 |[],[]=>true
 |p :: l,v :: vs=>p.is v&&Sw l vs
 |_,_=>false
def RF.args (f:RF) (r:AV):List AV:=bif f.bW then r.ZH else [r]
def RF.Ga (f:RF):AV→Bool
 |.bW _=>f.bW
 |_=>!f.bW
def HE (G:List GO) (used:List Nat) (pe:aM) (v:AV):Option (List pe.T):=match v with
 |.map id=>match nth G id with
  |some (.map es)=>bif UQ used id then none else (bif allFit pe.fits (ae es) then some ((ae es).map pe.bC) else none)
  |_=>none
 |_=>none
def N8 (ps:aR) (v:AV):Option ps.T:=match v with
 |.ep cs=>ps.dec cs
 |_=>none
def RP.dec (G:List GO) (used:List Nat):(p:RP)→AV→Option p.T
 |.YJ p,v=>p.dec v
 |.map pe,v=>HE G used pe v
 |.ep ps,v=>N8 ps v
def As (used:List Nat):AV→List Nat
 |.map id=>id :: used
 |_=>used
def Au (G:List GO):(used:List Nat)→(l:List RP)→List AV→Option (Ar l)
 |_,[],vs=>match vs with
  |[]=>some ()
  |_=>none
 |u,[p],vs=>match vs with
  |[v]=>p.dec G u v
  |_=>none
 |u,p :: q :: l,vs=>match vs with
  |v :: vs=>(p.dec G u v).bind fun x=>(Au G (As u v) (q :: l) vs).bind fun y=>some (x,y)
  |[]=>none
def RF.dec (f:RF) (G:List GO) (r:AV):Option (Ar f.l):=bif f.Ga r then Au G [] f.l (f.args r) else none
def RP.under:RP→Bool
 |.YJ p=>p.under 0
 |.map pe=>pe.under 0
 |.ep ps=>ps.under 0
def RF.under (f:RF):Bool:=f.l.all RP.under&&(f.bW || aag f.l.length 1)
def XT:List RF→Type
 |[]=>Empty
 |[f]=>Ar f.l
 |f :: g :: l=>Ar f.l ⊕ XT (g :: l)
def PU (G:List GO) (r:AV):(l:List RF)→Option (XT l)
 |[]=>none
 |[f]=>f.dec G r
 |f :: g :: l=>bif f.Ga r&&Sw f.l (f.args r) then (f.dec G r).bind fun x=>some (.inl x) else (PU G r (g :: l)).bind fun x=>some (.inr x)
def goX {α:Type} (G:List GO) (K:AV→List GO→α):(l:List RF)→XT l→α
 |[],o=>Empty.rec (fun _=>α) o
 |[f],o=>K (f.val G.length o) (G++kF f.l o)
 |f :: g :: l,o=>Sum.elim (fun v=>K (f.val G.length v) (G++kF f.l v)) (fun o=>goX G K (g :: l) o) o
theorem JD {α:Type} {G:List GO} {K:AV→List GO→α} {r:AV} {G':List GO}:∀ (l:List RF) (o:XT l),goX G (fun r0 G0=>r=r0∧G'=G0) l o→K r G'=goX G K l o
 |[],o,_=>nomatch o
 |[f],o,h=>by
  have h:r=f.val G.length o∧G'=G++kF f.l o:=h;rw [h.1,h.2]; rfl
 |f :: g :: l,.inl v,h=>by
  have h:r=f.val G.length v∧G'=G++kF f.l v:=h;rw [h.1,h.2]; rfl
 |f :: g :: l,.inr o,h=>JD (g :: l) o h
def uQ (E:Env) (g:FuncId) (args:List AV) (outs:List RF) (Q:XT outs→Prop):Prop:=
 ∀ G,eP E g args G (fun r G'=>∃ y,Q y∧goX G (fun r0 G0=>r=r0∧G'=G0) outs y)
section
variable {E:Env} {R R1 R2:aj} {w:World}
theorem fS.YK (m:Mv R R2 0):∀ {es:List (AV × AV)} {l:List AV} {aL:List MapEntry},n5 (ae es) l→aP 0 l=true→fS R w es aL→fS R2 w (az l) aL
 |[],[],[],_,_,_=>trivial
 |[],[],_ :: _,_,_,h=>h.elim
 |[],_ :: _,_,h,_,_=>h.elim
 |(_,_) :: _,[],_,h,_,_=>h.elim
 |(_,_) :: _,_ :: _,[],_,_,h=>h.elim
 |(k,v) :: es,a :: l,en :: aL,hd,hu,h=>by
  obtain ⟨d1,d2⟩:=hd;simp only [aP,aaa] at hu;have hc:=d1.cells rfl;have hl:[k,v].length=a.cells.length:=hc.length;cases a with
  |agg cs=>
   match cs,hc,hl with
   |[k',v'],hc,_=>
    have hua:aP 0 [k',v']=true:=hu.1;simp only [aP,Bool.and_true,aaa] at hua;exact ⟨(hc.1 _ _ _ h.1).move m hua.1,(hc.2.1 _ _ _ h.2.1).move m hua.2,fS.YK m d2 hu.2 h.2.2⟩
   |[],_,hl=>simp [AV.cells] at hl
   |[_],_,hl=>simp [AV.cells] at hl
   |_ :: _ :: _ :: _,_,hl=>simp [AV.cells] at hl
  |_=>simp [AV.cells] at hl
theorem aM.DP {p:aM} (h:p.under 0=true):∀ l:List p.T,aP 0 (l.map p.enc)=true
 |[]=>rfl
 |x :: l=>by
  show ((p.enc x).under 0&&aP 0 (l.map p.enc))=true;rw [p.fw x h,aM.DP h l];rfl
def DQ (R:aj) (n:Nat) (bs:List Nat):Prop:=∀ k b,nth bs k=some b→nth R.obj (n+k)=some (.bZ b)
def N9 (R:aj) (w:World) (gs:List GO) (bs:List Nat):Prop:=∀ k go b,nth gs k=some go→nth bs k=some b→jW R w go (.bZ b)
theorem RP.YL (p:RP) (x:p.T):(p.My x).length=p.no:=by cases p <;> rfl
theorem Sx {ps:aR} {v:AV} {y:ps.T} (h:N8 ps v=some y):∃ cs,v=.ep cs∧ps.dec cs=some y:=by
 unfold N8 at h;split at h
 ·exact ⟨_,rfl,h⟩
 ·cases h
theorem PV {G:List GO} {used:List Nat} {pe:aM} {v:AV} {y:List pe.T} (h:HE G used pe v=some y):∃ id es,v=.map id∧nth G id=some (.map es)∧id∉used∧n5 (ae es) (y.map pe.enc):=by
 unfold HE at h;split at h
 ·rename_i id;split at h
  ·rename_i es E2;cases hu:UQ used id with
   |true=>rw [hu] at h; cases h
   |false=>
    rw [hu,cond_false] at h;cases hf:allFit pe.fits (ae es) with
    |false=>rw [hf] at h; cases h
    |true=>
     rw [hf,cond_true] at h;have hy:=aaG h;refine ⟨id,es,rfl,E2,fun hm=>?_,?_⟩
     ·rw [Hv.2 hm] at hu; cases hu
     ·rw [← hy]; exact n5.of (fun v hv=>pe.eM hv) hf
  ·cases h
 ·cases h
theorem Mz {used:List Nat} {v:AV} {id:Nat} (h:id∈used):id∈As used v:=by
 unfold As;split
 ·exact abp _ h
 ·exact h
def HF (R1:aj) (w:World) (used:List Nat) (v:AV) (c:Value) (p:RP) (y:p.T):Prop:=
 ∃ bs:List Nat,bs.length=p.no∧(∀ b∈bs,∃ id,id∉used∧id∈As used v∧nth R1.obj id=some (.bZ b)) ∧
   ∀ (R2:aj) (n:Nat),(∀ b o,R1.I b o→R2.I b o)→DQ R2 n bs→Rel R2 w (p.enc n y) c∧N9 R2 w (p.My y) bs
theorem mvI {R1 R2:aj} (hI:∀ b o,R1.I b o→R2.I b o):Mv R1 R2 0:=⟨hI,fun _ _ h=>absurd h (aas _)⟩
theorem RP.aaK {used:List Nat} {p:aM} {v:AV} {c:Value} {y:p.T} (hp:p.under 0=true) (hv:Rel R1 w v c) (hd:p.dec v=some y):HF R1 w used v c (.YJ p) y:=
 ⟨[],rfl,(fun b hb=>by cases hb),fun R2 n hI _=>⟨Rel.move (mvI hI) (p.fw y hp) ((p.wU hd).jB _ _ _ hv),fun k go b h=>by cases k <;> cases h⟩⟩
theorem RP.afb {used:List Nat} {ps:aR} {v:AV} {c:Value} {y:ps.T} (hp:ps.under 0=true) (hv:Rel R1 w v c) (hd:N8 ps v=some y):HF R1 w used v c (.ep ps) y:=by
 obtain ⟨cs,rfl,hd⟩:=Sx hd;cases hv with
 |ep hc=>
 exact ⟨[],rfl,(fun b hb=>by cases hb),fun R2 n hI _=>⟨.ep (ik.move (mvI hI) ((ps.wU hd).1.Rk hc) (ps.fw y hp)),fun k go b h=>by cases k <;> cases h⟩⟩
theorem RP.aaL {G1:List GO} (hg:il E R1 w G1) {used:List Nat} {pe:aM} {v:AV} {c:Value} {y:List pe.T} (hp:pe.under 0=true) (hv:Rel R1 w v c) (hd:HE G1 used pe v=some y):HF R1 w used v c (.map pe) y:=by
 obtain ⟨id,es,rfl,E2,hu,PW⟩:=PV hd;cases hv with
 |map hb=>
 rename_i b;refine ⟨[b],rfl,fun b' oh=>?_,fun R2 n hI FN=>⟨.map (by have:=FN 0 b rfl; simpa using this),fun k go b' h1 h2=>?_⟩⟩
 ·rw [List.mem_singleton] at oh;subst oh;exact ⟨id,hu,List.mem_cons_self,hb⟩
 ·cases k with
  |succ k=>cases h2
  |zero=>
   cases h1; cases h2;obtain ⟨aL,clock,e1,e2,e3⟩:=hg.obj id _ _ E2 hb;exact ⟨aL,clock,e1,fS.YK (mvI hI) PW (aM.DP hp y) e2,e3⟩
theorem RP.ok {G1:List GO} (hg:il E R1 w G1) {used:List Nat} {p:RP} {v:AV} {c:Value} {y:p.T} (hp:p.under=true) (hv:Rel R1 w v c) (hd:p.dec G1 used v=some y):HF R1 w used v c p y:=by
 cases p with
 |YJ p=>exact RP.aaK hp hv hd
 |ep ps=>exact RP.afb hp hv hd
 |map pe=>exact RP.aaL hg hp hv hd
theorem j6 {α:Type} {l r:List α} {i:Nat} (h:i < l.length):nth (l++r) i=nth l i:=by
 rw [aV,aV,List.getElem?_append_left h]
theorem jn {α:Type} {l r:List α} (i:Nat):nth (l++r) (l.length+i)=nth r i:=by
 rw [aV,aV,List.getElem?_append_right (Nat.le_add_right _ _),Nat.add_sub_cancel_left]
theorem vH {α:Type} {l:List α} {i:Nat} {x:α} (h:nth l i=some x):i < l.length:=by
 rw [aV] at h;exact (List.getElem?_eq_some_iff.1 h).1
theorem RPs.ok {G1:List GO} (hg:il E R1 w G1):∀ {l:List RP} {used:List Nat} {vs:List AV} {cs:List Value} {y:Ar l},l.all RP.under=true→aQ R1 w vs cs→Au G1 used l vs=some y →
  ∃ bs:List Nat,bs.length=(kF l y).length∧bs.Nodup∧(∀ b∈bs,∃ id,id∉used∧nth R1.obj id=some (.bZ b)) ∧
   ∀ (R2:aj) (n:Nat),(∀ b o,R1.I b o→R2.I b o)→DQ R2 n bs→aQ R2 w (uP n l y) cs∧N9 R2 w (kF l y) bs
 |[],used,vs,cs,y,_,hv,hd=>by
  cases vs with
  |cons _ _=>cases hd
  |nil=>
  cases hv;exact ⟨[],rfl,aaN,(fun b hb=>by cases hb),fun R2 n _ _=>⟨.nil,fun k go b h=>by simp [kF,nth] at h⟩⟩
 |[p],used,vs,cs,y,hu,hv,hd=>by
  match vs,hv,hd with
  |[],_,hd=>cases hd
  |_ :: _ :: _,_,hd=>cases hd
  |[v],.cons hv .nil,hd=>
  have hu:p.under=true:=by simpa using hu
  obtain ⟨bs,h1,h2,h4⟩:=RP.ok hg hu hv hd;refine ⟨bs,h1.trans (p.YL y).symm,?_,fun b hb=>let ⟨id,q1,_,q2⟩:=h2 b hb; ⟨id,q1,q2⟩,fun R2 n hI FN=>?_⟩
  ·have:bs.length≤1:=by rw [h1]; cases p <;> simp [RP.no]
   match bs,this with
   |[],_=>exact aaN
   |[b],_=>simp
   |_ :: _ :: _,h=>simp at h
  ·obtain ⟨k1,k2⟩:=h4 R2 n hI FN;exact ⟨.cons k1 .nil,k2⟩
 |p :: q :: l,used,vs,cs,y,hu,hv,hd=>by
  match vs,hv,hd with
  |[],_,hd=>cases hd
  |v :: vs,.cons (c:=c) (cs:=cs) hv hvs,hd=>
  simp only [List.all_cons,aaa] at hu;obtain ⟨hu1,hu2⟩:=hu;have hu2:(q :: l).all RP.under=true:=by simpa using hu2
  have hd:((p.dec G1 used v).bind fun x=>(Au G1 (As used v) (q :: l) vs).bind fun y=>some (x,y))=some y:=hd;cases hx:p.dec G1 used v with
  |none=>rw [hx] at hd; cases hd
  |some x=>
  rw [hx] at hd;simp only [Option.bind_some] at hd;cases hz:Au G1 (As used v) (q :: l) vs with
  |none=>rw [hz] at hd; cases hd
  |some z=>
  rw [hz] at hd;simp only [Option.bind_some] at hd;cases hd;obtain ⟨bs,h1,h2,h4⟩:=RP.ok hg hu1 hv hx;obtain ⟨bs',k1,k0,k2,k4⟩:=RPs.ok hg hu2 hvs hz;have UK:bs.length=(p.My x).length:=h1.trans (p.YL x).symm;refine ⟨bs++bs',?_,?_,fun b hb=>?_,fun R2 n hI FN=>?_⟩
  ·show _=(p.My x++kF (q :: l) z).length;rw [aaq,aaq,UK,k1]
  ·have Pl:bs.Nodup:=by
    have:bs.length≤1:=by rw [h1]; cases p <;> simp [RP.no]
    match bs,this with
    |[],_=>exact aaN
    |[b],_=>simp
    |_ :: _ :: _,h=>simp at h
   rw [List.nodup_append];refine ⟨Pl,k0,fun a ha b hb e=>?_⟩;subst e;obtain ⟨id,_,q2,q3⟩:=h2 a ha;obtain ⟨mc,r1,r2⟩:=k2 a hb;have:id=mc:=hg.inj id mc _ _ a q3 r2 rfl rfl;subst this;exact r1 q2
  ·rcases List.mem_append.1 hb with hb|hb
   ·obtain ⟨id,q1,_,q2⟩:=h2 b hb;exact ⟨id,q1,q2⟩
   ·obtain ⟨id,q1,q2⟩:=k2 b hb;exact ⟨id,fun hm=>q1 (Mz hm),q2⟩
  ·have at1:DQ R2 n bs:=fun k b hk=>FN k b (by rw [j6 (vH hk)]; exact hk)
   have at2:DQ R2 (n+p.no) bs':=fun k b hk=>by
    have:=FN (bs.length+k) b (by rw [jn]; exact hk);rw [h1] at this;rw [Nat.add_assoc]; exact this
   obtain ⟨a1,a2⟩:=h4 R2 n hI at1;obtain ⟨b1,b2⟩:=k4 R2 (n+p.no) hI at2;refine ⟨.cons a1 b1,fun k go b kp hb=>?_⟩;change nth (p.My x++kF (q :: l) z) k=some go at kp;rcases abr k bs.length with hk|hk
   ·rw [j6 (by rw [← UK]; exact hk)] at kp;rw [j6 hk] at hb;exact a2 k go b kp hb
   ·obtain ⟨j,rfl⟩:∃ j,k=bs.length+j:=⟨k - bs.length,by omega⟩;rw [jn] at hb;rw [UK,jn] at kp;exact b2 j go b kp hb
theorem DR:∀ (l:List RP) (n:Nat) (y:Ar l),(uP n l y).length=l.length
 |[],_,_=>rfl
 |[_],_,_=>rfl
 |p :: q :: l,n,y=>by
  show (uP (n+p.no) (q :: l) y.2).length+1=(q :: l).length+1;rw [DR (q :: l)]
theorem uQ.of1 {R0:aj} {w0:World} {f:RF} {G G1:List GO} {r:AV} {c:Value} {y:Ar f.l} (hf:f.under=true) (hG:il E R0 w0 G) (st:Step ⟨R0.I,[]⟩ w0 (fun _=>0) kg R1 w (fun _=>0) kg) (hg:il E R1 w G1) (gO:Rel R1 w r c) (hd:f.dec G1 r=some y) :
  ∃ R2,Rel R2 w (f.val G.length y) c∧il E R2 w (G++kF f.l y)∧Step R0 w0 (fun _=>0) kg R2 w (fun _=>0) kg:=by
 unfold RF.under at hf;rw [aaa] at hf;unfold RF.dec at hd;obtain ⟨ht,hd⟩:f.Ga r=true∧Au G1 [] f.l (f.args r)=some y:=by
  cases ht:f.Ga r with
  |true=>rw [ht] at hd; exact ⟨rfl,hd⟩
  |false=>rw [ht] at hd; cases hd
 obtain ⟨cs,wg,afc⟩:∃ cs,aQ R1 w (f.args r) cs∧∀ R2 (x:Ar f.l) n,aQ R2 w (uP n f.l x) cs→Rel R2 w (f.val n x) c:=by
  unfold RF.args RF.val;cases aje:f.bW with
  |true=>
   have:∃ vs,r=.bW vs:=by
    cases r <;> first | exact ⟨_,rfl⟩ | (simp [RF.Ga,aje] at ht)
   obtain ⟨vs,rfl⟩:=this;cases gO with
   |bW h=>exact ⟨_,h,fun R2 x n h=>.bW h⟩
  |false=>
   refine ⟨[c],.cons gO .nil,fun R2 x n h=>?_⟩;simp only [cond_false];have hlen:=DR f.l n x;revert h hlen;generalize uP n f.l x=l;intro h hlen;cases h with
   |cons h _=>exact h
 obtain ⟨bs,h1,h2,h3,h4⟩:=RPs.ok hg hf.1 wg hd;have oW:∀ b,¬ Own (⟨R0.I,[]⟩:aj) (fun _=>0) kg b:=fun b ho=>by
  obtain ⟨id,ro,q1,_⟩:=jk ho;simp [nth] at q1
 have wZ:∀ b∈bs,w0.heap.size≤b:=fun b hb=>by
  obtain ⟨id,_,hid⟩:=h3 b hb;rcases abr b w0.heap.size with cE|E6
  ·exact absurd (st.own b cE (.inl ⟨id,_,hid,rfl⟩)) (oW b)
  ·exact E6
 let R2:aj:=⟨R1.I,R0.obj++bs.map RO.bZ⟩
 have e:Ext R0 w0 R2 w:=⟨st.ext.I,st.ext.cell,fun id ro h=>⟨ro,by rw [j6 (vH h)]; exact h,cQ.refl ro⟩,st.ext.lp⟩;have bD:∀ b,b < w0.heap.size→w.heap[b]?=w0.heap[b]?:=fun b hb=>st.bD b hb (oW b)
 have im:∀ b o,b < w0.heap.size→R1.I b o→R0.I b o:=fun b o hb hi=>st.im b o hi hb (oW b)
 have ajf:∀ {k ro},nth (bs.map RO.bZ) k=some ro→∃ b,nth bs k=some b∧ro=.bZ b:=fun {k ro} h=>by
  rw [aV,List.getElem?_map] at h;cases hb:bs[k]? with
  |none=>rw [hb] at h; cases h
  |some b=>rw [hb] at h; exact ⟨b,by rw [aV]; exact hb,(aaG h).symm⟩
 have FN:DQ R2 R0.obj.length bs:=fun k b hk=>by
  show nth (R0.obj++bs.map RO.bZ) (R0.obj.length+k)=_;rw [jn,aV,List.getElem?_map];rw [aV] at hk;rw [hk]; rfl
 obtain ⟨k1,k2⟩:=h4 R2 R0.obj.length (fun _ _ h=>h) FN;rw [hG.len] at k1;have hold:∀ id ro,nth R2.obj id=some ro→nth R0.obj id=some ro∨∃ k b,id=R0.obj.length+k∧nth bs k=some b∧ro=.bZ b:=fun id ro h=>by
  rcases abr id R0.obj.length with cE|E6
  ·exact .inl (by rw [← j6 (r:=bs.map RO.bZ) cE]; exact h)
  ·obtain ⟨k,rfl⟩:∃ k,id=R0.obj.length+k:=⟨id - R0.obj.length,by omega⟩;have h:nth (R0.obj++bs.map RO.bZ) (R0.obj.length+k)=some ro:=h;rw [jn] at h;obtain ⟨b,q1,q2⟩:=ajf h;exact .inr ⟨k,b,rfl,q1,q2⟩
 have YM:∀ id ro b,nth R0.obj id=some ro→ro.has b→b < w0.heap.size:=fun id ro b h hb=>by
  have hl:=vH h;rw [hG.len] at hl;have kp:nth G id=some G[id]:=by rw [aV]; exact List.getElem?_eq_getElem hl
  exact (hG.obj id _ _ kp h).lt hb
 have aaM:∀ {k b},nth bs k=some b→b∈bs:=fun {k b} h=>by
  rw [aV] at h;exact List.mem_of_getElem? h
 refine ⟨R2,afc R2 y _ k1,⟨?_,fun id go ro q1 q2=>?_,fun i j ri rj b q1 q2 b1 b2=>?_,hg.wf,fun g cs BG=>(hG.ft g cs BG).mono e,hg.lo⟩,⟨e,st.os,st.tape,st.output,st.size,fun b hb _=>bD b hb,fun b hb ho=>?_,fun b o hi hb _=>im b o hb hi⟩⟩
 ·show (R0.obj++bs.map RO.bZ).length=_;rw [aaq,List.length_map,aaq,hG.len,h1]
 ·rcases hold id ro q2 with q2|⟨k,b,rfl,q3,rfl⟩
  ·have hl:=vH q2;rw [hG.len] at hl;rw [j6 hl] at q1;refine (hG.obj id go ro q1 q2).mono e (fun b hb=>bD b ?_) (fun b o hb hi=>im b o ?_ hi)
   ·exact (hG.obj id go ro q1 q2).lt hb
   ·exact (hG.obj id go ro q1 q2).lt hb
  ·rw [hG.len,jn] at q1;exact k2 k go b q1 q3
 ·rcases hold i ri q1 with q1|⟨k,a,rfl,q3,rfl⟩
  ·rcases hold j rj q2 with q2|⟨k',a',rfl,q4,rfl⟩
   ·exact hG.inj i j ri rj b q1 q2 b1 b2
   ·have:b=a':=b2;subst this;have:=wZ _ (aaM q4);have:=YM i ri b q1 b1;omega
  ·have hba:b=a:=b1;subst hba;rcases hold j rj q2 with q2|⟨k',a',rfl,q4,rfl⟩
   ·have:=wZ _ (aaM q3);have:=YM j rj b q2 b2;omega
   ·have:b=a':=b2;subst this;have l1:=vH q3;have l2:=vH q4;rw [aV] at q3 q4;have:=(List.getElem?_inj l1 h2).1 (q3.trans q4.symm);omega
 ·rcases jk ho with ⟨id,ro,q1,q2⟩;rcases hold id ro q1 with q1|⟨k,a,rfl,q3,rfl⟩
  ·exact .inl ⟨id,ro,q1,q2⟩
  ·have:b=a:=q2;subst this;have:=wZ _ (aaM q3);omega
theorem Oa {G1:List GO} {r:AV}:∀ {outs:List RF} {y:XT outs},PU G1 r outs=some y→(∀ f∈outs,f.under=true) →
  ∃ (f:RF) (z:Ar f.l),f.under=true∧f.dec G1 r=some z∧∀ {α:Type} (G:List GO) (K:AV→List GO→α),goX G K outs y=K (f.val G.length z) (G++kF f.l z)
 |[],_,h,_=>by cases h
 |[f],y,h,hu=>⟨f,y,hu f (by simp),h,fun _ _=>rfl⟩
 |f :: g :: l,y,h,hu=>by
  simp only [PU] at h;cases hb:(f.Ga r&&Sw f.l (f.args r)) with
  |true=>
   rw [hb] at h;simp only [cond_true] at h;cases hx:f.dec G1 r with
   |none=>rw [hx] at h; cases h
   |some x=>
    rw [hx] at h;cases h;exact ⟨f,x,hu f (by simp),hx,fun _ _=>rfl⟩
  |false=>
   rw [hb] at h;simp only [cond_false] at h;cases hx:PU G1 r (g :: l) with
   |none=>rw [hx] at h; cases h
   |some x=>
    rw [hx] at h;cases h;obtain ⟨f',z,k0,k1,k2⟩:=Oa hx (fun f hf=>hu f (abp _ hf));exact ⟨f',z,k0,k1,fun G K=>k2 G K⟩
theorem uQ.of {g:FuncId} {args:List AV} {outs:List RF} {Q:XT outs→Prop} (hc:aP 0 args=true) (hp:∀ f∈outs,f.under=true)
  (h:eP E g args [] (fun r G'=>∃ y,PU G' r outs=some y∧Q y)):uQ E g args outs Q:=fun G=>by
 refine ⟨h.1,fun R w cs hg hl=>?_⟩
 let R0:aj:=⟨R.I,[]⟩
 have m0:Mv R R0 0:=⟨fun _ _ h=>h,fun _ _ h=>absurd h (aas _)⟩;have hg0:il E R0 w []:=⟨rfl,fun id go ro h1 _=>by simp [nth] at h1,fun i j ri rj b h1=>by simp [R0,nth] at h1,hg.wf,fun g cs BG=>(hg.ft g cs BG).move m0 (dY _ (E.GV g cs BG)),hg.lo⟩;have Ac:aQ R0 w args cs:=hl.move m0 hc;refine (h.2 R0 w cs hg0 Ac).mono fun e w' he=>?_
 cases e with
 |panicked c=>exact he.elim
 |outgrown=>exact he.elim
 |returned c=>
  obtain ⟨r,G',R1,⟨y,hy,hQ⟩,gO,UR,st⟩:=he;obtain ⟨f,z,hf,hz,kp⟩:=Oa hy hp;obtain ⟨R2,k1,k2,k3⟩:=uQ.of1 hf hg st UR gO hz;refine ⟨_,_,R2,⟨y,hQ,?_⟩,k1,k2,k3⟩;rw [kp];exact ⟨rfl,rfl⟩
end
end Go.Am
namespace Go.Am
open Go
def afd (s:St) (t:Tmp) (sz:Nat) (e:TypeId):Option (Bool × St):=match lk s.ab t with
 |.v (.list (.own id) bP es)=>match nth s.G id with
  |some (.tok f FO e2)=>if aag bP sz&&(aag FO sz&&aag e2 e) then
    some (decide (f=es.length),⟨.put t (.v (.list .iu sz es)) :: s.ab,s.boxes,aC s.G id .dead,s.marks,s.ro,s.n⟩) else none
  |_=>none
 |_=>none
section
variable {E:Env} {R:aj} {w:World} {β:Nat→Nat} {s:St} {a:Act}
def MA (R:aj) (w:World) (β:Nat→Nat) (bx:dX) (c:Value) (n sz:Nat) (e:TypeId) (ro:RO):Prop:=
 jW R w (.tok n sz e) ro∧(∀ b,ro.has b→¬ Live R b∧∀ k cs,fh bx k=some cs→β k≠b) ∧
  ((c=.slice none 0 0∧ro=.bj)∨∃ b o len cap,c=.slice (some ⟨b,o,none⟩) len cap∧len=n∧Rc b o len cap ro)
theorem MA.mono {R R':aj} {bx Nz:dX} {c:Value} {n sz:Nat} {e:TypeId} {ro:RO} (h:MA R w β bx c n sz e ro) (hI:R'.I=R.I) (hl:∀ b,Live R' b→Live R b) (hb:∀ k cs,fh Nz k=some cs→∃ ig,fh bx k=some ig):MA R' w β Nz c n sz e ro:=by
 obtain ⟨h1,h2,h3⟩:=h;refine ⟨?_,fun b Ri=>⟨fun q=>(h2 b Ri).1 (hl b q),fun k cs hk=>let ⟨ig,ly⟩:=hb k cs hk; (h2 b Ri).2 k ig ly⟩,h3⟩;cases ro with
 |tok f g c k=>
  obtain ⟨q1,cur,q2,q3,q4,q5,q6⟩:=h1;exact ⟨q1,cur,q2,q3,q4,q5,fun o ho=>by rw [hI]; exact q6 o ho⟩
 |bj=>exact h1
 |none=>exact h1.elim
 |bZ _=>exact h1.elim
 |aY _=>exact h1.elim
end
end Go.Am
