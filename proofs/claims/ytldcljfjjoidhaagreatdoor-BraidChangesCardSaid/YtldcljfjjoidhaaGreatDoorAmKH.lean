/- The abstract machine: regions whose order the tape draws,along a tree of choices that was checked. -/
import Derived.Test.YtldcljfjjoidhaaGreatDoorAmKG
set_option linter.all false
namespace Go.Am
open Go
section
variable {E:Env} {s t:St} {f:FuncId} {ops:Array Oper} {o oj oi:Oper} {d:Tmp} {x:SV} {K K':St→Prop} {cF:Nat→List Nat} {C:List Nat}
def EH (E:Env) (f:FuncId) (ops:Array Oper) (cF:Nat→List Nat) (C:List Nat) (i:Nat) (s:St):Prop:=
 ∀ j∈C,∀ oj oi,ops[j]?=some oj→ops[i]?=some oi→hJ oj oi=true→j∉cF i→Cc E f ops.toList oj s
def NC (ops:Array Oper) (C:List Nat):Prop:=∀ j∈C,∀ oj,ops[j]?=some oj→qm oj.op=true
theorem nu {i:Nat} (hC:NC ops C):Inv (EH E f ops cF C i):=fun _ _ e h j hj oj oi h1 h2 h3 h4=>JN (hC j hj oj h1) e (h j hj oj oi h1 h2 h3 h4)
def ew (E:Env) (f:FuncId) (ops:Array Oper) (cF:Nat→List Nat) (C:List Nat) (K:St→Prop):Nat→Array Bool→St→Prop
 | 0,listed,s=>Region.ready .any ops listed=[]∧K s
 | n+1,listed,s=>(Region.ready .any ops listed=[]→K s) ∧
   ∀ i∈Region.ready .any ops listed,∀ oi,ops[i]?=some oi→bP E f ops.toList oi (fun s'=>EH E f ops cF C i s'∧ew E f ops cF C K n (listed.setIfInBounds i true) s') s
theorem fY (hC:NC ops C) (hK:Inv K):∀ n listed,Inv (ew E f ops cF C K n listed)
 | 0,_=>fun s t e h=>⟨h.1,hK s t e h.2⟩
 | n+1,_=>fun s t e h=>⟨fun h0=>hK s t e (h.1 h0),fun i hi oi pV=>Ab (fun s t e h=>⟨nu hC s t e h.1,fY hC hK n _ s t e h.2⟩) s t e (h.2 i hi oi pV)⟩
theorem lu {C':List Nat}:∀ n (listed:Array Bool) (s:St),
  (∀ k∈C',k∈C∨∀ i ok oi,ops[k]?=some ok→ops[i]?=some oi→listed.getD i true=false→hJ ok oi=true→k∈cF i) →
  ew E f ops cF C K n listed s→ew E f ops cF C' K n listed s
 | 0,_,_,_,h=>h
 | n+1,listed,s,hk,h=>⟨h.1,fun i hi oi pV=>bQ (h.2 i hi oi pV) fun s' h'=>⟨fun k OL ok Ni h1 h2 h3 h4=>by
   rcases hk k OL with h5 | h5
   ·exact h'.1 k h5 ok Ni h1 h2 h3 h4
   ·exact absurd (h5 i ok Ni h1 h2 (mem_ready.1 hi).1 h3) h4,lu n _ s' (fun k OL=>by
   rcases hk k OL with h5 | h5
   ·exact .inl h5
   ·refine .inr fun i' ok Ni h1 h2 h3 h4=>h5 i' ok Ni h1 h2 ?_ h4
    by_cases e:i=i'
    ·subst e; exact (mem_ready.1 hi).1
    ·rw [getD_set_ne true e] at h3; exact h3) h'.2⟩⟩
def wQ (ops:Array Oper) (cF:Nat→List Nat):Prop:=∀ i oi a,ops[i]?=some oi→a∈cF i→∃ e∈oi.after,Region.binds .any e=true∧(e.on=a∨a∈cF e.on)
def lx (cF:Nat→List Nat) (listed:Array Bool):Prop:=∀ i,listed.getD i false=true→∀ a∈cF i,listed.getD a false=true
theorem lx.ready {listed:Array Bool} (h:lx cF listed) (ha:wQ ops cF) {i:Nat} (hi:i∈Region.ready .any ops listed):∀ a∈cF i,listed.getD a false=true:=fun a UJ=>by
 obtain ⟨_,o,ho,nR⟩:=mem_ready.1 hi
 obtain ⟨e,he,hb,h2⟩:=ha i o a ho UJ
 rcases h2 with rfl | h2
 ·exact nR e he hb
 ·exact h _ (nR e he hb) a h2
theorem iG {listed:Array Bool} {i:Nat} (h:listed.getD i false=true):listed.getD i true=true:=by
 rw [Array.getD_eq_getD_getElem?] at *
 cases hl:listed[i]? with
 | none=>rw [hl] at h; cases h
 | some b=>rw [hl] at h; exact h
theorem lx.add {listed:Array Bool} (h:lx cF listed) (ha:wQ ops cF) {i:Nat} (hi:i∈Region.ready .any ops listed):lx cF (listed.setIfInBounds i true):=fun k hk a UJ=>by
 by_cases e:i=k
 ·subst e
  exact getD_set_true (h.ready ha hi a UJ)
 ·rw [getD_set_ne false e] at hk
  exact getD_set_true (h k hk a UJ)
theorem Ci (hA:wQ ops cF) (hC:NC ops C) (hK:Inv K) {j:Nat} (hj:ops[j]?=some oj) (hN:qm oj.op=true) (Dp:oj.dst=some d) (Ad:d∉oj.looksAt ops)
  (VK:∀ k∈C,∀ ok,ops[k]?=some ok→d∉ok.looksAt ops∧ok.dst≠some d):∀ n (listed:Array Bool) (s:St) (x:SV),lx cF listed →
   (∀ i oi,ops[i]?=some oi→i≠j→listed.getD i true=false→(∀ e∈oi.after,Region.binds .any e=true→e.on≠j)→oj.apart ops oi=true) →
   j∈Region.ready .any ops listed→ub E f ops oj s x→ew E f ops cF (j :: C) K n (listed.setIfInBounds j true) (s.put (some d) x)→ew E f ops cF C K (n+1) listed s:=by
 have Jl:NC ops (j :: C):=fun k hk ok ho=>by
  rcases List.mem_cons.1 hk with rfl | hk
  ·rw [hj] at ho; cases ho; exact hN
  ·exact hC k hk ok ho
 have self:∀ n (listed:Array Bool) (s:St) (x:SV),ub E f ops oj s x→ew E f ops cF (j :: C) K n (listed.setIfInBounds j true) (s.put (some d) x)→∀ oi,ops[j]?=some oi →
   bP E f ops.toList oi (fun s'=>EH E f ops cF C j s'∧ew E f ops cF C K n (listed.setIfInBounds j true) s') s:=fun n listed s x hx h oi pV=>by
  rw [hj] at pV
  cases pV
  refine uf hN (fun s t e h=>⟨nu hC s t e h.1,fY hC hK _ _ s t e h.2⟩) hx ?_
  rw [Dp]
  refine ⟨fun k _ ok Ni _ h2 h3 _=>?_,lu n _ _ (fun k hk=>.inl (List.mem_cons_of_mem _ hk)) h⟩
  rw [hj] at h2
  cases h2
  simp [hJ,z8 hN,hN] at h3
 intro n
 induction n with
 | zero=>
  intro listed s x _ _ hr hx h
  refine ⟨fun h0=>by rw [h0] at hr; simp at hr,fun i hi oi pV=>?_⟩
  by_cases e:i=j
  ·subst e; exact self 0 listed s x hx h oi pV
  ·have:=ready_mono hi e
   rw [h.1] at this
   simp at this
 | succ n ih=>
  intro listed s x iw gY hr hx h
  refine ⟨fun h0=>by rw [h0] at hr; simp at hr,fun i hi oi pV=>?_⟩
  by_cases e:i=j
  ·subst e; exact self (n+1) listed s x hx h oi pV
  ·have Gj:=(mem_ready.1 hi).1
   have JS:=(mem_ready.1 hr).1
   have Og:∀ ed∈oi.after,Region.binds .any ed=true→ed.on≠j:=fun ed he hb iZ=>by
    obtain ⟨_,o,ho,nR⟩:=mem_ready.1 hi
    rw [pV] at ho
    cases ho
    have h1:=iG (nR ed he hb)
    rw [iZ,JS] at h1
    cases h1
   have Rp:=gY i oi pV e Gj Og
   have hG:=h.2 i (ready_mono hi e) oi pV
   have Gk:j∉cF i:=fun hm=>by
    have h1:=iG (iw.ready hA hi j hm)
    rw [JS] at h1
    cases h1
   have UK:Inv (fun s'=>EH E f ops cF (j :: C) i s'∧ew E f ops cF (j :: C) K n ((listed.setIfInBounds j true).setIfInBounds i true) s'):=
    fun s t e h=>⟨nu Jl s t e h.1,fY Jl hK _ _ s t e h.2⟩
   have OM:∀ k ok,ops[k]?=some ok→k≠j→(listed.setIfInBounds i true).getD k true=false→(∀ e∈ok.after,Region.binds .any e=true→e.on≠j)→oj.apart ops ok=true:=fun k ok hk VL SH qI=>by
    refine gY k ok hk VL ?_ qI
    by_cases e':i=k
    ·subst e'; exact Gj
    ·rw [getD_set_ne true e'] at SH; exact SH
   have core:∀ {pre:aT} {preB:b8} {G:List GO},Rn (bE oi.op) oi.dst pre→(qm oi.op=true→preB=[]∧G=s.G) →
     (EH E f ops cF (j :: C) i ((s.put (some d) x).dZ pre preB G)∧ew E f ops cF (j :: C) K n ((listed.setIfInBounds j true).setIfInBounds i true) ((s.put (some d) x).dZ pre preB G)) →
     EH E f ops cF C i (s.dZ pre preB G)∧ew E f ops cF C K (n+1) (listed.setIfInBounds i true) (s.dZ pre preB G):=by
    intro pre preB G vU SG hk
    obtain ⟨x',qB,iE⟩:=EB hN Dp Ad Rp UK hx vU SG hk (fun t' Cj hd=>Cj.1 j (List.mem_cons_self ..) oj oi hj pV hd Gk)
    refine ⟨fun k OL ok Ni h1 h2 h3 h4=>?_,?_⟩
    ·obtain ⟨q1,q2⟩:=VK k OL ok h1
     obtain ⟨b1,b2,b3,_⟩:=eP (s.dZ pre preB G) (some d) x'
     exact JM (hC k OL ok h1) q1 q2 (fun e he=>sO _ _ _ he) (by rw [b1]) b2 b3 (iE.1 k (List.mem_cons_of_mem _ OL) ok Ni h1 h2 h3 h4)
    ·refine ih (listed.setIfInBounds i true) _ x' (iw.add hA hi) OM (ready_mono hr (Ne.symm e)) qB ?_
     rw [Array.setIfInBounds_comm _ _ e]
     exact iE.2
   rw [eO (fun s t e h=>⟨nu hC s t e h.1,fY hC hK _ _ s t e h.2⟩)]
   obtain ⟨JD,_,_⟩:=Oper.apart_spec Rp
   have rA:∀ e∈oi.looksAt ops,lk (s.put (some d) x).ae e=lk s.ae e:=fun e he=>sO s d x fun k=>JD d Dp (k ▸ he)
   obtain ⟨b1,b2,b3,b4,b5⟩:=eP s (some d) x
   rcases (eO UK).1 hG with ⟨h1,h2⟩ | ⟨h1,h2⟩
   ·refine .inl ⟨by rw [← jb rA]; exact h1,qO b3 b2 (by rw [b1]) (jk rA) h2 fun pre preB G hp SG hk=>core hp (fun hh=>?_) hk⟩
    obtain ⟨q1,q2⟩:=SG hh
    exact ⟨q1,by rw [q2,b2]⟩
   ·refine .inr ⟨by rw [← jb rA]; exact h1,?_⟩
    obtain ⟨pre,preB,G,p1,p2,p3,p4⟩:=bw.put (s:=s.put (some d) x) (t:=s) (al:=bE oi.op) (w:=false) b3 b2 oi.dst (.v eE)
    obtain ⟨q1,q2,_⟩:=p2 rfl
    rw [p3] at h2
    rw [p4]
    exact core p1 (fun _=>⟨q1,by rw [q2,b2]⟩) h2
theorem Ds {i:Nat} {s:St}:EH E f ops cF [] i s:=fun j hj=>by cases hj
theorem ON {y:Operand} {k off:Nat} (h:bk E s.ae y=.lp k off):∃ e,y=.tmp e∧lk s.ae e=.lp k off:=by
 cases y with
 | tmp e=>exact ⟨e,rfl,h⟩
 | const v=>simp only [bk] at h; split at h <;> cases h
 | global g=>simp only [bk] at h; split at h <;> cases h
 | func g=>cases h
theorem Gl (hA:wQ ops cF) (hK:Inv K) {j:Nat} (hj:ops[j]?=some oj) (hg:oj.guard=none) (Dp:oj.dst=some d) (EC:bE oj.op=true) (OO:E.vI f d=false):∀ n (listed:Array Bool) (s s1:St),lx cF listed →
  (∀ i oi,ops[i]?=some oi→i≠j→listed.getD i true=false→j∉cF i→oj.apart ops oi=true∧∀ e∈oi.looksAt ops,∀ off,lk s.ae e≠.lp d off) →
  j∈Region.ready .any ops listed→ap E f s oj=some (true,s1)→ew E f ops cF [] K n (listed.setIfInBounds j true) s1→ew E f ops cF [] K (n+1) listed s:=by
 have Jl:NC ops []:=fun k hk=>by cases hk
 have self:∀ n (listed:Array Bool) (s s1:St),ap E f s oj=some (true,s1)→ew E f ops cF [] K n (listed.setIfInBounds j true) s1→∀ oi,ops[j]?=some oi →
   bP E f ops.toList oi (fun s'=>EH E f ops cF [] j s'∧ew E f ops cF [] K n (listed.setIfInBounds j true) s') s:=fun n listed s s1 hx h oi pV=>by
  rw [hj] at pV
  cases pV
  unfold bP
  rw [hg]
  exact (Dr EC).2 ⟨s1,hx,Ds,h⟩
 intro n
 induction n with
 | zero=>
  intro listed s s1 _ _ hr hx h
  refine ⟨fun h0=>by rw [h0] at hr; simp at hr,fun i hi oi pV=>?_⟩
  by_cases e:i=j
  ·subst e; exact self 0 listed s s1 hx h oi pV
  ·have:=ready_mono hi e
   rw [h.1] at this
   simp at this
 | succ n ih=>
  intro listed s s1 iw gY hr hx h
  refine ⟨fun h0=>by rw [h0] at hr; simp at hr,fun i hi oi pV=>?_⟩
  by_cases e:i=j
  ·subst e; exact self (n+1) listed s s1 hx h oi pV
  ·have Gj:=(mem_ready.1 hi).1
   have JS:=(mem_ready.1 hr).1
   have Gk:j∉cF i:=fun hm=>by
    have h1:=iG (iw.ready hA hi j hm)
    rw [JS] at h1
    cases h1
   obtain ⟨Rp,qI⟩:=gY i oi pV e Gj Gk
   obtain ⟨JD,cj,zH⟩:=Oper.apart_spec Rp
   have Gi:oi.dst≠some d:=cj d Dp
   obtain ⟨_,cs,rfl,Dg⟩:=Cg EC Dp OO hx
   have hG:=h.2 i (ready_mono hi e) oi pV
   have UK:Inv (fun s'=>EH E f ops cF [] i s'∧ew E f ops cF [] K n ((listed.setIfInBounds j true).setIfInBounds i true) s'):=
    fun s t e h=>⟨nu Jl s t e h.1,fY Jl hK _ _ s t e h.2⟩
   have EG:∀ y∈oi.op.operands,∀ off,bk E s.ae y≠.lp d off:=fun y hy off hv=>by
    obtain ⟨e',rfl,hv⟩:=ON hv
    exact qI e' (ls hy) off hv
   have core:∀ {pre:aT} {preB:b8} {G:List GO},gr E s oi (s.dZ pre preB G) →
     (EH E f ops cF [] i ((oG s d cs).dZ pre preB G)∧ew E f ops cF [] K n ((listed.setIfInBounds j true).setIfInBounds i true) ((oG s d cs).dZ pre preB G)) →
     EH E f ops cF [] i (s.dZ pre preB G)∧ew E f ops cF [] K (n+1) (listed.setIfInBounds i true) (s.dZ pre preB G):=by
    intro pre preB G JR hk
    refine ⟨Ds,?_⟩
    obtain ⟨o1,o2⟩:=Dq JR
    have rA:∀ e' off,oi.dst≠some e'∨lk (s.dZ pre preB G).ae e'=.lp d off→lk (s.dZ pre preB G).ae e'=.lp d off→lk s.ae e'=.lp d off:=by
     intro e' off _ hv
     have hv:lk (pre++s.ae) e'=.lp d off:=hv
     rcases o1 with rfl | ⟨d',x,C5,hp,SI⟩
     ·exact hv
     ·have qB:∀ off,x≠.lp d off:=fun off c=>by
       rcases SI d off c with ⟨y,hy,eF,ho⟩ | ⟨_,h⟩
       ·exact EG y hy eF ho
       ·exact Gi (by rw [C5,h])
      by_cases c2:d'=e'
      ·subst c2
       rcases hp with rfl | rfl
       ·simp only [List.cons_append,List.nil_append,ay] at hv; exact absurd hv (qB off)
       ·simp only [List.cons_append,List.nil_append,ay] at hv; exact absurd hv (qB off)
      ·rcases hp with rfl | rfl
       ·simp only [List.cons_append,List.nil_append] at hv; rwa [aH c2] at hv
       ·simp only [List.cons_append,List.nil_append] at hv
        rw [aH c2,hU] at hv
        cases hl:lk s.ae e' with
        | lp k eF=>
         rw [hl] at hv
         simp only at hv
         cases hb:Nat.beq k d' with
         | true=>rw [hb] at hv; cases hv
         | false=>rw [hb] at hv; exact hv
        | v a=>rw [hl] at hv; cases hv
        | none=>rw [hl] at hv; cases hv
    refine ih (listed.setIfInBounds i true) _ _ (iw.add hA hi) ?_ (ready_mono hr (Ne.symm e)) (Dg (s.dZ pre preB G) rfl ?_) ?_
    ·intro k ok iE VL SH VM
     have VN:listed.getD k true=false:=by
      by_cases e':i=k
      ·subst e'; exact Gj
      ·rw [getD_set_ne true e'] at SH; exact SH
     obtain ⟨q1,q2⟩:=gY k ok iE VL VN VM
     exact ⟨q1,fun e' UL off hv=>q2 e' UL off (rA e' off (.inr hv) hv)⟩
    ·intro y hy v hv
     cases y with
     | tmp e'=>
      have C5:oi.dst≠some e':=fun c=>zH e' c (ls hy)
      have hv:lk s.ae e'=.v v:=hv
      show lk (pre++s.ae) e'=.v v
      rcases o1 with rfl | ⟨d',x,Sz,hp,_⟩
      ·exact hv
      ·have c2:d'≠e':=fun c=>C5 (by rw [Sz,c])
       rcases hp with rfl | rfl
       ·simp only [List.cons_append,List.nil_append]; rw [aH c2]; exact hv
       ·simp only [List.cons_append,List.nil_append]
        rw [aH c2,uh (fun off=>by rw [hv]; intro c; cases c)]; exact hv
     | const _=>exact hv
     | global _=>exact hv
     | func _=>exact hv
    ·rw [Array.setIfInBounds_comm _ _ e]
     exact fY Jl hK _ _ _ _ (EF cs JR Gi EG) hk.2
   have yf:∀ e'∈oi.looksAt ops,lk (oG s d cs).ae e'=lk s.ae e':=fun e' UL=>by
    have c1:d≠e':=fun c=>JD d Dp (c ▸ UL)
    show lk (.put d (.lp d 0) :: .kill d :: s.ae) e'=_
    rw [aH c1,uh (qI e' UL)]
   have BK:∀ k off,(∃ y∈oi.op.operands,bk E (oG s d cs).ae y=.lp k off)→cG (oG s d cs).boxes k=cG s.boxes k:=by
    rintro k off ⟨y,hy,hv⟩
    rw [jk yf y hy] at hv
    have I9:d≠k:=fun c=>EG y hy off (by rw [c]; exact hv)
    show cG ((d,cs) :: s.boxes) k=cG s.boxes k
    simp only [cG]
    cases hb:Nat.beq d k with
    | true=>exact absurd (Nat.eq_of_beq_eq_true hb) I9
    | false=>rfl
   rw [eO (fun s t e h=>⟨nu Jl s t e h.1,fY Jl hK _ _ s t e h.2⟩)]
   rcases (eO UK).1 hG with ⟨h1,h2⟩ | ⟨h1,h2⟩
   ·exact .inl ⟨by rw [← jb yf]; exact h1,Ch (s:=oG s d cs) (t:=s) rfl rfl BK (jk yf) h2 fun pre preB G hO hk=>core hO hk⟩
   ·refine .inr ⟨by rw [← jb yf]; exact h1,?_⟩
    obtain ⟨pre,preB,G,p1,p2,p3,p4⟩:=bw.put (s:=oG s d cs) (t:=s) (al:=bE oi.op) (w:=false) rfl rfl oi.dst (.v eE)
    rw [p3] at h2
    have hO:gr E s oi (s.put oi.dst (.v eE)):=jl rfl rfl _
    rw [p4] at hO ⊢
    exact core hO h2
end
inductive DT where
 | done
 | take (j:Nat) (C:List Nat) (t:DT)
 | br (i:Nat) (re C:List Nat) (t:DT) (more:DT)
 | stop
 | al (j:Nat) (W:List Nat) (t:DT)
structure ly where
 dst:Option Tmp
 lo:List Tmp
 pr:List Nat
 n:Bool
 r:Bool
 a:Bool
def Dt (d:Nat) (s:aT):List Nat→Bool
 | []=>true
 | e :: l=>(match lk s e with
  | .lp k _=>!Nat.beq k d
  | _=>true)&&Dt d s l
def OP (E:Env) (f:FuncId) (o:Oper) (W:List Nat) (s:St):Bool:=match o.guard,o.dst with
 | none,some d=>!E.vI f d&&Dt d s.ae W
 | _,_=>false
def iH (x:Nat):List Nat→Bool
 | []=>false
 | y :: l=>Nat.beq x y || iH x l
def nw:List Edge→List Nat
 | []=>[]
 | e :: l=>bif Region.binds .any e then e.on :: nw l else nw l
def jm (ops:Array Oper) (o:Oper):ly:=⟨o.dst,o.looksAt ops,nw o.after.toList,qm o.op,OK o.op,bE o.op⟩
def yg {α:Type} (n:Nat) (K:Nat→α):α:=match n with
 | 0=>K 0
 | m+1=>K (Nat.succ m)
def wR {α:Type}:List Nat→(List Nat→α)→α
 | [],K=>K []
 | a :: l,K=>yg a fun a=>wR l fun l=>K (a :: l)
def OQ {α:Type} (i:ly) (K:ly→α):α:=match i with
 | ⟨d,lo,pr,n,r,a⟩=>wR lo fun lo=>wR pr fun pr=>(match d with
  | none=>(fun (K:Option Tmp→α)=>K none)
  | some d=>(fun (K:Option Tmp→α)=>yg d fun d=>K (some d))) fun d=>(bif n then (fun (K:Bool→α)=>K true) else fun K=>K false) fun n=>
   (bif r then (fun (K:Bool→α)=>K true) else fun K=>K false) fun r=>(bif a then (fun (K:Bool→α)=>K true) else fun K=>K false) fun a=>K ⟨d,lo,pr,n,r,a⟩
def Du {α:Type}:List ly→(List ly→α)→α
 | [],K=>K []
 | i :: l,K=>OQ i fun i=>Du l fun l=>K (i :: l)
def qQ (x y:ly):Bool:=
 (match x.dst with
 | some d=>!iH d y.lo&&(match y.dst with | some e=>!Nat.beq e d | none=>true)
 | none=>true) &&
 (match y.dst with
 | some d=>!iH d x.lo
 | none=>true)
def Ag (j:Nat) (x:ly) (cf:List Nat):Nat→List ly→Bool
 | _,[]=>true
 | i,y :: l=>(Nat.beq i j || iH j y.pr || iH i cf || qQ x y)&&Ag j x cf (i+1) l
def Ah (I:List ly):Nat→List ly→List (List Nat)→Bool
 | _,[],_=>true
 | j,x :: l,c :: cs=>(!x.n || Ag j x c 0 I)&&Ah I (j+1) l cs
 | _,_,_=>false
def ui (cF:Nat→List Nat):Nat→List ly→Bool
 | _,[]=>true
 | i,x :: l=>(cF i).all (fun a=>x.pr.any fun e=>Nat.beq e a || iH a (cF e))&&ui cF (i+1) l
def lz (L:Nat):Nat→List ly→List Nat
 | _,[]=>[]
 | i,x :: l=>bif !L.testBit i&&x.pr.all (fun e=>L.testBit e) then i :: lz L (i+1) l else lz L (i+1) l
def ny (x y:ly):Bool:=y.a || (x.r&&!y.n)
def nz (cF:Nat→List Nat) (L k:Nat) (x:ly):Nat→List ly→Bool
 | _,[]=>true
 | i,y :: l=>(L.testBit i || !ny x y || iH k (cF i))&&nz cF L k x (i+1) l
def sP (I:List ly) (cF:Nat→List Nat) (L:Nat) (C C':List Nat):Bool:=C.all fun k=>iH k C' || match nth I k with
 | none=>false
 | some x=>nz cF L k x 0 I
def Nj (I:List ly) (cF:Nat→List Nat) (C re:List Nat) (i:Nat) (y:ly):Bool:=C.all fun k=>iH k re || match nth I k with
 | none=>false
 | some x=>!ny x y || iH k (cF i)
def Dv (cF:Nat→List Nat) (L:Nat) (W:List Nat) (j:Nat) (x:ly):Nat→List ly→Bool
 | _,[]=>true
 | i,y :: l=>(Nat.beq i j || L.testBit i || iH j (cF i) || (qQ x y&&y.lo.all fun e=>iH e W))&&Dv cF L W j x (i+1) l
def Dw (I:List ly) (C:List Nat):Bool:=C.all fun k=>match nth I k with
 | some x=>x.n
 | none=>false
def jO (I:List ly) (N:Nat) (cF:Nat→List Nat) (cf:List (List Nat)):DT→Nat→List Nat→Nat→Option (List Nat)→Bool
 | .done,_,_,L,none=>Nat.beq L N
 | .take j C' t,n+1,C,L,none=>match nth I j,nth cf j with
  | some x,some c=>match x.dst with
   | none=>false
   | some d=>x.n&&!iH d x.lo&&(C.all fun k=>match nth I k with
     | none=>false
     | some y=>!iH d y.lo&&(match y.dst with | some e=>!Nat.beq e d | none=>true)) &&
    c.all (fun i=>L.testBit i)&&!L.testBit j&&x.pr.all (fun e=>L.testBit e)&&Dw I C' &&
    yg (L ||| 2 ^ j) fun L'=>sP I cF L' (j :: C) C'&&jO I N cF cf t n C' L' none
  | _,_=>false
 | .br i re C' t more,n+1,C,L,left=>match nth I i with
  | none=>false
  | some y=>(match left with
   | none=>fun (K:List Nat→Bool)=>wR (lz L 0 I) K
   | some l=>fun K=>K l) fun l=>
    Nj I cF C re i y&&Dw I C'&&iH i l&&(yg (L ||| 2 ^ i) fun L'=>sP I cF L' C C'&&jO I N cF cf t n C' L' none) &&
     jO I N cF cf more (n+1) C L (some (l.filter fun k=>!Nat.beq k i))
 | .stop,_,_,_,some l=>l.isEmpty
 | .al j W t,n+1,C,L,none=>match nth I j with
  | some x=>match x.dst with
   | none=>false
   | some _=>C.isEmpty&&x.a&&!L.testBit j&&x.pr.all (fun e=>L.testBit e)&&Dv cF L W j x 0 I&&yg (L ||| 2 ^ j) fun L'=>jO I N cF cf t n [] L' none
  | none=>false
 | _,_,_,_,_=>false
def wS (E:Env) (f:FuncId) (ops:List Oper):List Nat→St→Prop
 | [],_=>True
 | k :: l,s=>(match nth ops k with
  | some ok=>Cc E f ops ok s
  | none=>True)∧wS E f ops l s
def qn (E:Env) (f:FuncId) (ops:List Oper):DT→(St→Prop)→St→Prop
 | .done,K,s=>K s
 | .take j _ t,K,s=>match nth ops j with
  | some oj=>bP E f ops oj (qn E f ops t K) s
  | none=>False
 | .br i re _ t more,K,s=>(match nth ops i with
  | some oi=>bP E f ops oi (fun s'=>wS E f ops re s'∧qn E f ops t K s') s
  | none=>False)∧qn E f ops more K s
 | .stop,_,_=>True
 | .al j W t,K,s=>match nth ops j with
  | some oj=>OP E f oj W s=true∧bP E f ops oj (qn E f ops t K) s
  | none=>False
def Gm (l:List (List Nat)) (i:Nat):List Nat:=match nth l i with
 | some a=>a
 | none=>[]
section
variable {E:Env} {s t:St} {f:FuncId} {ops:Array Oper} {K:St→Prop} {cF:Nat→List Nat}
theorem dK {x:Nat}:∀ {l:List Nat},iH x l=true↔x∈l
 | []=>by simp [iH]
 | y :: l=>by simp [iH,dK (l:=l)]
theorem lA {α:Type} (n:Nat) (K:Nat→α):yg n K=K n:=by cases n <;> rfl
theorem uj {α:Type}:∀ (l:List Nat) (K:List Nat→α),wR l K=K l
 | [],_=>rfl
 | a :: l,K=>by simp only [wR,lA]; rw [uj]
theorem JU {α:Type} (i:ly) (K:ly→α):OQ i K=K i:=by
 obtain ⟨d,lo,pr,n,r,a⟩:=i
 cases d <;> cases n <;> cases r <;> cases a <;> simp [OQ,uj,lA]
theorem Ai {α:Type}:∀ (l:List ly) (K:List ly→α),Du l K=K l
 | [],_=>rfl
 | a :: l,K=>by simp only [Du,JU]; rw [Ai]
def jn (ops:Array Oper):List ly:=ops.toList.map (jm ops)
theorem pW {k:Nat} {x:ly} (h:nth (jn ops) k=some x):∃ o,ops[k]?=some o∧x=jm ops o:=by
 rw [aR,jn,List.getElem?_map,Array.getElem?_toList] at h
 cases ho:ops[k]? with
 | none=>rw [ho] at h; cases h
 | some o=>rw [ho] at h; exact ⟨o,rfl,by simpa using h.symm⟩
theorem gK {e:Nat}:∀ {l:List Edge},e∈nw l↔∃ ed∈l,Region.binds .any ed=true∧ed.on=e
 | []=>by simp [nw]
 | x :: l=>by
  unfold nw
  cases hb:Region.binds .any x with
  | true=>
   simp only [cond_true,List.mem_cons,gK (l:=l),exists_eq_or_imp,hb,true_and]
   constructor
   ·rintro (h | h)
    ·exact .inl h.symm
    ·exact .inr h
   ·rintro (h | h)
    ·exact .inl h.symm
    ·exact .inr h
  | false=>simp only [cond_false,List.mem_cons,gK (l:=l),exists_eq_or_imp,hb,false_and,false_or,Bool.false_eq_true]
theorem wT {x y:Oper} (h:qQ (jm ops x) (jm ops y)=true):x.apart ops y=true:=by
 have hm:∀ (d:Nat) (l:List Nat),iH d l=false→l.contains d=false:=fun d l h=>by
  cases hc:l.contains d with
  | false=>rfl
  | true=>rw [dK.2 (by simpa using hc)] at h; cases h
 unfold qQ at h
 unfold Oper.apart
 simp only [jm,Bool.and_eq_true] at h ⊢
 refine ⟨?_,?_⟩
 ·cases hx:x.dst with
  | none=>rfl
  | some d=>
   rw [hx] at h
   simp only [Bool.and_eq_true,Bool.not_eq_true'] at h ⊢
   refine ⟨hm _ _ h.1.1,?_⟩
   have h2:=h.1.2
   cases hy:y.dst with
   | none=>rfl
   | some e=>
    rw [hy] at h2
    simp only [Bool.not_eq_true'] at h2
    have:e≠d:=fun k=>by rw [k,pw] at h2; cases h2
    simpa using this
 ·cases hy:y.dst with
  | none=>rfl
  | some d=>
   rw [hy] at h
   simp only [Bool.not_eq_true'] at h ⊢
   exact hm _ _ h.2
def Aj (ops:Array Oper) (L:Nat) (listed:Array Bool):Prop:=listed.size=ops.size∧∀ i,i < ops.size→listed[i]?=some (L.testBit i)
theorem Aj.add {L:Nat} {listed:Array Bool} (h:Aj ops L listed) (j:Nat):Aj ops (L ||| 2 ^ j) (listed.setIfInBounds j true):=by
 refine ⟨by simp [h.1],fun i hi=>?_⟩
 rw [Nat.testBit_or,Nat.testBit_two_pow]
 by_cases e:j=i
 ·subst e
  rw [Array.getElem?_setIfInBounds_self_of_lt (by rw [h.1]; exact hi)]
  simp
 ·rw [Array.getElem?_setIfInBounds_ne e,h.2 i hi]
  simp [e]
theorem Aj.Ak {L:Nat} {listed:Array Bool} (h:Aj ops L listed) {i:Nat} (hi:i < ops.size) (b:Bool):listed.getD i b=L.testBit i:=by
 rw [Array.getD_eq_getD_getElem?,h.2 i hi]; rfl
theorem oH {L:Nat} {listed:Array Bool} (h:Aj ops L listed) {j:Nat} {o:Oper} (ho:ops[j]?=some o) (h1:L.testBit j=false) (h2:((jm ops o).pr.all fun e=>L.testBit e)=true)
  (bT:∀ e∈o.after,Region.binds .any e=true→e.on < ops.size):j∈Region.ready .any ops listed:=by
 have hj:j < ops.size:=(Array.getElem?_eq_some_iff.1 ho).1
 refine mem_ready.2 ⟨by rw [h.Ak hj]; exact h1,o,ho,fun e he hb=>?_⟩
 rw [h.Ak (bT e he hb)]
 exact List.all_eq_true.1 h2 e.on (gK.2 ⟨e,by simpa using he,hb,rfl⟩)
def OR (n:Nat) (I:List ly):Bool:=I.all fun x=>x.pr.all fun e=>Nat.blt e n
theorem fD {k:Nat} {o:Oper} (h:ops[k]?=some o):nth (jn ops) k=some (jm ops o):=by
 rw [aR,jn,List.getElem?_map,Array.getElem?_toList,h]; rfl
theorem jo {k:Nat} {o:Oper} (h:ops[k]?=some o):(jn ops)[k]?=some (jm ops o):=by
 rw [← aR]; exact fD h
theorem nA (h:OR ops.size (jn ops)=true) {k:Nat} {o:Oper} (ho:ops[k]?=some o):∀ e∈o.after,Region.binds .any e=true→e.on < ops.size:=fun e he hb=>by
 have h1:=List.all_eq_true.1 h (jm ops o) (List.mem_of_getElem? (jo ho))
 have h2:=List.all_eq_true.1 h1 e.on (gK.2 ⟨e,by simpa using he,hb,rfl⟩)
 exact Nat.le_of_ble_eq_true h2
theorem uk {j:Nat} {x:ly} {c:List Nat}:∀ {l:List ly} {i:Nat},Ag j x c i l=true→∀ k y,l[k]?=some y→(Nat.beq (i+k) j || iH j y.pr || iH (i+k) c || qQ x y)=true
 | [],_,_,k,y,hk=>by simp at hk
 | z :: l,i,h,k,y,hk=>by
  unfold Ag at h
  rw [Bool.and_eq_true] at h
  cases k with
  | zero=>simp at hk; subst hk; exact h.1
  | succ k=>
   have:=uk h.2 k y (by simpa using hk)
   rw [show i+1+k=i+(k+1) by omega] at this
   exact this
theorem ul {I:List ly}:∀ {l:List ly} {j:Nat} {cs:List (List Nat)},Ah I j l cs=true→∀ k x c,l[k]?=some x→cs[k]?=some c→x.n=true→Ag (j+k) x c 0 I=true
 | [],_,_,_,k,x,c,hk,_,_=>by simp at hk
 | z :: l,j,[],_,k,x,c,_,hc,_=>by simp at hc
 | z :: l,j,d :: cs,h,k,x,c,hk,hc,hn=>by
  unfold Ah at h
  rw [Bool.and_eq_true] at h
  cases k with
  | zero=>
   simp at hk hc
   subst hk hc
   have:=h.1
   rw [hn] at this
   simpa using this
  | succ k=>
   have:=ul h.2 k x c (by simpa using hk) (by simpa using hc) hn
   rw [show j+1+k=j+(k+1) by omega] at this
   exact this
theorem rN:∀ {l:List ly} {i:Nat},ui cF i l=true→∀ k x,l[k]?=some x→∀ a∈cF (i+k),∃ e∈x.pr,e=a∨a∈cF e
 | [],_,_,k,x,hk=>by simp at hk
 | z :: l,i,h,k,x,hk=>by
  unfold ui at h
  rw [Bool.and_eq_true] at h
  cases k with
  | zero=>
   simp at hk
   subst hk
   intro a ha
   have h1:=List.all_eq_true.1 h.1 a ha
   obtain ⟨e,he,h2⟩:=List.any_eq_true.1 h1
   rw [Bool.or_eq_true] at h2
   refine ⟨e,he,?_⟩
   rcases h2 with h2 | h2
   ·exact .inl (Nat.eq_of_beq_eq_true h2)
   ·exact .inr (dK.1 h2)
  | succ k=>
   have:=rN h.2 k x (by simpa using hk)
   rw [show i+1+k=i+(k+1) by omega] at this
   exact this
theorem Ck (h:ui cF 0 (jn ops)=true):wQ ops cF:=fun i oi a hi ha=>by
 have h1:=rN h i _ (jo hi) a (by rw [Nat.zero_add]; exact ha)
 obtain ⟨e,he,h2⟩:=h1
 obtain ⟨ed,q1,q2,rfl⟩:=gK.1 he
 exact ⟨ed,by simpa using q1,q2,h2⟩
theorem mI {L:Nat}:∀ {l:List ly} {i k:Nat},k∈lz L i l↔∃ j x,k=i+j∧l[j]?=some x∧L.testBit k=false∧(x.pr.all fun e=>L.testBit e)=true
 | [],i,k=>by simp [lz]
 | z :: l,i,k=>by
  have ih:=mI (L:=L) (l:=l) (i:=i+1) (k:=k)
  have rest:(∃ j x,k=i+1+j∧l[j]?=some x∧L.testBit k=false∧(x.pr.all fun e=>L.testBit e)=true)↔∃ j x,k=i+(j+1)∧(z :: l)[j+1]?=some x∧L.testBit k=false∧(x.pr.all fun e=>L.testBit e)=true:=by
   constructor
   ·rintro ⟨j,x,h1,h2⟩; exact ⟨j,x,by omega,by simpa using h2⟩
   ·rintro ⟨j,x,h1,h2⟩; exact ⟨j,x,by omega,by simpa using h2⟩
  unfold lz
  cases hc:(!L.testBit i&&z.pr.all fun e=>L.testBit e) with
  | true=>
   simp only [cond_true,List.mem_cons,ih,rest]
   rw [Bool.and_eq_true,Bool.not_eq_true'] at hc
   constructor
   ·rintro (rfl | ⟨j,x,h⟩)
    ·exact ⟨0,z,rfl,rfl,hc⟩
    ·exact ⟨j+1,x,h⟩
   ·rintro ⟨j,x,h1,h2⟩
    cases j with
    | zero=>exact .inl h1
    | succ j=>exact .inr ⟨j,x,h1,h2⟩
  | false=>
   simp only [cond_false,ih,rest]
   constructor
   ·rintro ⟨j,x,h⟩; exact ⟨j+1,x,h⟩
   ·rintro ⟨j,x,h1,h2,h3,h4⟩
    cases j with
    | zero=>
     simp at h2 h1
     subst h1 h2
     rw [h3,h4] at hc
     cases hc
    | succ j=>exact ⟨j,x,h1,h2,h3,h4⟩
theorem mJ {L k:Nat} {x:ly}:∀ {l:List ly} {i:Nat},nz cF L k x i l=true→∀ j y,l[j]?=some y→L.testBit (i+j)=false→ny x y=true→k∈cF (i+j)
 | [],_,_,j,y,hj=>by simp at hj
 | z :: l,i,h,j,y,hj=>by
  unfold nz at h
  rw [Bool.and_eq_true] at h
  cases j with
  | zero=>
   simp at hj
   subst hj
   intro h1 h2
   have h3:=h.1
   rw [Nat.add_zero] at h1
   rw [h1,h2] at h3
   exact dK.1 (by simpa using h3)
  | succ j=>
   have:=mJ h.2 j y (by simpa using hj)
   rw [show i+1+j=i+(j+1) by omega] at this
   exact this
theorem rO {L:Nat} {listed:Array Bool} (hM:Aj ops L listed) {C C':List Nat} (h:sP (jn ops) cF L C C'=true):∀ k∈C,k∈C'∨∀ i ok oi,ops[k]?=some ok→ops[i]?=some oi→listed.getD i true=false→hJ ok oi=true→k∈cF i:=fun k hk=>by
 have h1:=List.all_eq_true.1 h k hk
 rw [Bool.or_eq_true] at h1
 rcases h1 with h1 | h1
 ·exact .inl (dK.1 h1)
 ·refine .inr fun i ok oi q1 q2 q3 q4=>?_
  rw [fD q1] at h1
  have hi:i < ops.size:=(Array.getElem?_eq_some_iff.1 q2).1
  have:=mJ h1 i _ (jo q2) (by rw [Nat.zero_add,← hM.Ak hi]; exact q3) q4
  rw [Nat.zero_add] at this
  exact this
theorem wU {C:List Nat} (h:Dw (jn ops) C=true):NC ops C:=fun k hk ok dE=>by
 have:=List.all_eq_true.1 h k hk
 rw [fD dE] at this
 exact this
theorem um {L j:Nat} {x:ly} {W:List Nat}:∀ {l:List ly} {i:Nat},Dv cF L W j x i l=true→∀ k y,l[k]?=some y→(Nat.beq (i+k) j || L.testBit (i+k) || iH j (cF (i+k)) || (qQ x y&&y.lo.all fun e=>iH e W))=true
 | [],_,_,k,y,hk=>by simp at hk
 | z :: l,i,h,k,y,hk=>by
  unfold Dv at h
  rw [Bool.and_eq_true] at h
  cases k with
  | zero=>simp at hk; subst hk; exact h.1
  | succ k=>
   have:=um h.2 k y (by simpa using hk)
   rw [show i+1+k=i+(k+1) by omega] at this
   exact this
theorem uo {d:Nat} {s:aT}:∀ {l:List Nat},Dt d s l=true→∀ e∈l,∀ off,lk s e≠.lp d off
 | [],_,e,he,_=>by cases he
 | a :: l,h,e,he,off=>by
  unfold Dt at h
  rw [Bool.and_eq_true] at h
  rcases List.mem_cons.1 he with rfl | he
  ·intro hv
   have h1:=h.1
   rw [hv] at h1
   simp only [pw] at h1
   cases h1
  ·exact uo h.2 e he off
theorem mK {cf:List (List Nat)} (hA:wQ ops cF) (hP:OR ops.size (jn ops)=true) (hF:Ah (jn ops) 0 (jn ops) cf=true) (hK:Inv K):∀ (T:DT) (n:Nat) (C:List Nat) (listed:Array Bool) (L:Nat),NC ops C→lx cF listed→Aj ops L listed →
  (jO (jn ops) (2 ^ ops.size - 1) cF cf T n C L none=true→∀ s,qn E f ops.toList T K s→ew E f ops cF C K n listed s) ∧
  (∀ m l,n=m+1→jO (jn ops) (2 ^ ops.size - 1) cF cf T n C L (some l)=true→∀ s,qn E f ops.toList T K s→∀ i∈l,i∈Region.ready .any ops listed→∀ oi,ops[i]?=some oi →
   bP E f ops.toList oi (fun s'=>EH E f ops cF C i s'∧ew E f ops cF C K m (listed.setIfInBounds i true) s') s)
 | .done,n,C,listed,L,hC,iw,hM=>by
  refine ⟨fun h s hs=>?_,fun m l _ h=>by simp [jO] at h⟩
  have hL:L=2 ^ ops.size - 1:=Nat.eq_of_beq_eq_true (by simpa only [jO] using h)
  have hr:Region.ready .any ops listed=[]:=by
   apply List.eq_nil_iff_forall_not_mem.2
   intro j hj
   obtain ⟨h1,o,ho,_⟩:=mem_ready.1 hj
   have bT:j < ops.size:=(Array.getElem?_eq_some_iff.1 ho).1
   rw [hM.Ak bT,hL,Nat.testBit_two_pow_sub_one] at h1
   simp [bT] at h1
  cases n with
  | zero=>exact ⟨hr,hs⟩
  | succ n=>exact ⟨fun _=>hs,fun i hi=>by rw [hr] at hi; simp at hi⟩
 | .stop,n,C,listed,L,hC,iw,hM=>by
  refine ⟨fun h=>by cases n <;> simp [jO] at h,fun m l e h s _ i hi=>?_⟩
  subst e
  have:l=[]:=by simpa [jO] using h
  rw [this] at hi
  simp at hi
 | .al j W T,0,C,listed,L,hC,iw,hM=>⟨fun h=>by simp [jO] at h,fun m l e=>by cases e⟩
 | .al j W T,n+1,C,listed,L,hC,iw,hM=>by
  refine ⟨fun h s hs=>?_,fun m l _ h=>by simp [jO] at h⟩
  unfold jO at h
  split at h
  ·rename_i x hx
   obtain ⟨oj,hj,rfl⟩:=pW hx
   split at h
   ·cases h
   ·rename_i d hd
    simp only [lA,Bool.and_eq_true] at h
    obtain ⟨⟨⟨⟨⟨VO,EC⟩,hbit⟩,SJ⟩,tA⟩,hT⟩:=h
    have VO:C=[]:=by simpa using VO
    subst VO
    have EC:bE oj.op=true:=EC
    have hd:oj.dst=some d:=hd
    have uq:j∈Region.ready .any ops listed:=oH hM hj (by simpa using hbit) SJ (nA hP hj)
    obtain ⟨ih,_⟩:=mK hA hP hF hK T n [] (listed.setIfInBounds j true) (L ||| 2 ^ j) (fun k hk=>by cases hk) (iw.add hA uq) (hM.add j)
    unfold qn at hs
    rw [aR,Array.getElem?_toList,hj] at hs
    simp only at hs
    obtain ⟨dE,hs⟩:=hs
    unfold OP at dE
    split at dE
    ·rename_i _ d' hg C5
     rw [hd] at C5
     cases C5
     rw [Bool.and_eq_true] at dE
     have OO:E.vI f d=false:=by simpa using dE.1
     have Ob:bP E f ops.toList oj (ew E f ops cF [] K n (listed.setIfInBounds j true)) s:=bQ hs fun s' h'=>ih hT s' h'
     unfold bP at Ob
     rw [hg] at Ob
     obtain ⟨s1,q1,q2⟩:=(Dr EC).1 Ob
     refine Gl hA hK hj hg hd EC OO n listed s s1 iw (fun i oi hi cj Gj qI=>?_) uq q1 q2
     have eL:=um tA i _ (jo hi)
     rw [Nat.zero_add] at eL
     simp only [Bool.or_eq_true] at eL
     have OS:i < ops.size:=(Array.getElem?_eq_some_iff.1 hi).1
     rcases eL with ((h1 | h1) | h1) | h1
     ·exact absurd (Nat.eq_of_beq_eq_true h1) cj
     ·rw [hM.Ak OS,h1] at Gj; cases Gj
     ·exact absurd (dK.1 h1) qI
     ·rw [Bool.and_eq_true] at h1
      exact ⟨wT h1.1,fun e he off=>uo dE.2 e (dK.1 (List.all_eq_true.1 h1.2 e he)) off⟩
    ·cases dE
  ·cases h
 | .take j C' T,0,C,listed,L,hC,iw,hM=>⟨fun h=>by simp [jO] at h,fun m l e=>by cases e⟩
 | .take j C' T,n+1,C,listed,L,hC,iw,hM=>by
  refine ⟨fun h s hs=>?_,fun m l _ h=>by simp [jO] at h⟩
  unfold jO at h
  split at h
  ·rename_i x c hx hc
   obtain ⟨oj,hj,rfl⟩:=pW hx
   split at h
   ·cases h
   ·rename_i d hd
    simp only [lA,Bool.and_eq_true] at h
    obtain ⟨⟨⟨⟨⟨⟨⟨hN,Ad⟩,VK⟩,hcf⟩,hbit⟩,SJ⟩,nR⟩,OT,hT⟩:=h
    have hN:qm oj.op=true:=hN
    have hd:oj.dst=some d:=hd
    have uq:j∈Region.ready .any ops listed:=oH hM hj (by simpa using hbit) SJ (nA hP hj)
    have Ri:∀ {d:Nat} {l:List Nat},(!iH d l)=true→d∉l:=fun h hm=>by rw [dK.2 hm] at h; cases h
    have OU:d∉oj.looksAt ops:=Ri Ad
    have VP:∀ k∈C,∀ ok,ops[k]?=some ok→d∉ok.looksAt ops∧ok.dst≠some d:=fun k hk ok dE=>by
     have:=List.all_eq_true.1 VK k hk
     rw [fD dE] at this
     simp only [Bool.and_eq_true] at this
     refine ⟨Ri this.1,fun e=>?_⟩
     have h2:=this.2
     simp only [jm,e,pw] at h2
     cases h2
    have Jl:NC ops (j :: C):=fun k hk ok ho=>by
     rcases List.mem_cons.1 hk with rfl | hk
     ·rw [hj] at ho; cases ho; exact hN
     ·exact hC k hk ok ho
    have VQ:=iw.add hA uq
    obtain ⟨ih,_⟩:=mK hA hP hF hK T n C' (listed.setIfInBounds j true) (L ||| 2 ^ j) (wU nR) VQ (hM.add j)
    unfold qn at hs
    rw [aR,Array.getElem?_toList,hj] at hs
    simp only at hs
    have Ob:bP E f ops.toList oj (ew E f ops cF (j :: C) K n (listed.setIfInBounds j true)) s:=bQ hs fun s' h'=>lu n _ _ (rO (hM.add j) OT) (ih hT s' h')
    obtain ⟨x,qB,hk⟩:=uc hN (fY Jl hK _ _) Ob
    rw [hd] at hk
    refine Ci hA hC hK hj hN hd OU VP n listed s x iw (fun i oi hi cj Gj qI=>?_) uq qB hk
    have tA:=ul hF j _ c (jo hj) (by rw [← aR]; exact hc) hN
    have eL:=uk tA i _ (jo hi)
    rw [Nat.zero_add,Nat.zero_add] at eL
    simp only [Bool.or_eq_true] at eL
    have OS:i < ops.size:=(Array.getElem?_eq_some_iff.1 hi).1
    rcases eL with ((h1 | h1) | h1) | h1
    ·exact absurd (Nat.eq_of_beq_eq_true h1) cj
    ·obtain ⟨e,q1,q2,q3⟩:=gK.1 (dK.1 h1)
     exact absurd q3 (qI e (by simpa using q1) q2)
    ·have:=List.all_eq_true.1 hcf i (dK.1 h1)
     rw [hM.Ak OS,this] at Gj
     cases Gj
    ·exact wT h1
  ·cases h
 | .br i re C' T more,0,C,listed,L,hC,iw,hM=>⟨fun h=>by simp [jO] at h,fun m l e=>by cases e⟩
 | .br i re C' T more,n+1,C,listed,L,hC,iw,hM=>by
  have main:∀ left l,(match left with | none=>lz L 0 (jn ops) | some l=>l)=l→jO (jn ops) (2 ^ ops.size - 1) cF cf (.br i re C' T more) (n+1) C L left=true→∀ s,qn E f ops.toList (.br i re C' T more) K s→i∈l∧∀ k∈l,k∈Region.ready .any ops listed→∀ ok,ops[k]?=some ok →
    bP E f ops.toList ok (fun s'=>EH E f ops cF C k s'∧ew E f ops cF C K n (listed.setIfInBounds k true) s') s:=by
   intro left l hl h s hs
   unfold jO at h
   split at h
   ·cases h
   ·rename_i y hy
    obtain ⟨oi,pV,rfl⟩:=pW hy
    have h:(Nj (jn ops) cF C re i (jm ops oi)&&Dw (jn ops) C'&&iH i l&&(sP (jn ops) cF (L ||| 2 ^ i) C C'&&jO (jn ops) (2 ^ ops.size - 1) cF cf T n C' (L ||| 2 ^ i) none) &&
     jO (jn ops) (2 ^ ops.size - 1) cF cf more (n+1) C L (some (l.filter fun k=>!Nat.beq k i)))=true:=by
     cases left with
     | none=>simp only at hl; subst hl; simp only [uj,lA] at h; exact h
     | some l'=>simp only at hl; subst hl; simp only [lA] at h; exact h
    simp only [Bool.and_eq_true] at h
    obtain ⟨⟨⟨⟨Sf,nR⟩,nQ⟩,OT,hT⟩,hmore⟩:=h
    unfold qn at hs
    refine ⟨dK.1 nQ,fun k hk UM ok dE=>?_⟩
    by_cases e:k=i
    ·subst e
     rw [pV] at dE
     cases dE
     obtain ⟨ih,_⟩:=mK hA hP hF hK T n C' (listed.setIfInBounds k true) (L ||| 2 ^ k) (wU nR) (iw.add hA UM) (hM.add k)
     have h1:=hs.1
     rw [aR,Array.getElem?_toList,pV] at h1
     refine bQ h1 fun s' h'=>⟨fun c hc oc Ni q1 q2 q3 q4=>?_,lu n _ _ (rO (hM.add k) OT) (ih hT s' h'.2)⟩
     rw [pV] at q2
     cases q2
     have wI:=List.all_eq_true.1 Sf c hc
     rw [fD q1] at wI
     have ZP:ny (jm ops oc) (jm ops oi)=true:=q3
     simp only [ZP,Bool.not_true,Bool.false_or,Bool.or_eq_true] at wI
     rcases wI with wI | wI
     ·have hm:c∈re:=dK.1 wI
      have:∀ (re:List Nat),c∈re→wS E f ops.toList re s'→Cc E f ops.toList oc s':=by
       intro re
       induction re with
       | nil=>intro hm; simp at hm
       | cons a re ihr=>
        intro hm ha
        rcases List.mem_cons.1 hm with rfl | hm
        ·have:=ha.1
         rw [aR,Array.getElem?_toList,q1] at this
         exact this
        ·exact ihr hm ha.2
      exact this re hm h'.1
     ·exact absurd (dK.1 wI) q4
    ·obtain ⟨_,ih⟩:=mK hA hP hF hK more (n+1) C listed L hC iw hM
     refine ih n _ rfl hmore s hs.2 k ?_ UM ok dE
     rw [List.mem_filter]
     exact ⟨hk,by rw [kY e]; rfl⟩
  refine ⟨fun h s hs=>?_,fun m l e h s hs k hk UM ok dE=>?_⟩
  ·obtain ⟨m1,m2⟩:=main none _ rfl h s hs
   have back:∀ k,k∈lz L 0 (jn ops)→k∈Region.ready .any ops listed:=fun k hk=>by
    obtain ⟨j,x,q1,q2,q3,q4⟩:=mI.1 hk
    rw [Nat.zero_add] at q1
    subst q1
    rw [← aR] at q2
    obtain ⟨o,ho,rfl⟩:=pW q2
    exact oH hM ho q3 q4 (nA hP ho)
   have SK:∀ k,k∈Region.ready .any ops listed→k∈lz L 0 (jn ops):=fun k hk=>by
    obtain ⟨h1,o,ho,nR⟩:=mem_ready.1 hk
    have bT:k < ops.size:=(Array.getElem?_eq_some_iff.1 ho).1
    refine mI.2 ⟨k,jm ops o,by omega,jo ho,by rw [← hM.Ak bT]; exact h1,List.all_eq_true.2 fun e he=>?_⟩
    obtain ⟨ed,q1,q2,rfl⟩:=gK.1 he
    have h2:=nR ed (by simpa using q1) q2
    rw [hM.Ak (nA hP ho ed (by simpa using q1) q2)] at h2
    exact h2
   refine ⟨fun h0=>?_,fun k hk ok dE=>m2 k (SK k hk) hk ok dE⟩
   have:=back i m1
   rw [h0] at this
   simp at this
  ·cases e
   exact (main (some l) l rfl h s hs).2 k hk UM ok dE
theorem ur {R:ai} {w:World} {β:Nat→Nat} {F:Fence} {Qc:Exit→Act→World→Prop} {C:List Nat} (hQ:∀ a' w',mE E R w β s K a' w'→Qc .normal a' w') :
  ∀ (n:Nat) (listed:Array Bool) (R1:ai) (w1:World) (β1:Nat→Nat) (s1:St) (a1:Act),aY E R1 w1 β1 s1 a1→Step R w β s.boxes R1 w1 β1 s1.boxes→s1.ro=s.ro→bD R1 s1.ro F →
   ew E f ops cF C K n listed s1→wpAnyIn F 0 E.P .any ops Qc n listed a1 w1
 | 0,listed,R1,w1,β1,s1,a1,hr,jN,bA,_,ha=>⟨ha.1,hQ _ _ ⟨s1,R1,β1,ha.2,hr,jN,bA⟩⟩
 | n+1,listed,R1,w1,β1,s1,a1,hr,jN,bA,hf,ha=>by
  refine ⟨fun h0=>hQ _ _ ⟨s1,R1,β1,ha.1 h0,hr,jN,bA⟩,fun i hi=>?_⟩
  obtain ⟨_,o,ho,_⟩:=mem_ready.1 hi
  unfold wpOpIn
  simp only [ho]
  refine pQ hr hf (ha.2 i hi o ho) _ ?_
  rintro a' w' ⟨s',R',β',q1,q2,q3,q4⟩
  exact ur hQ n _ R' w' β' s' a' q2 (jN.trans q3) (q4.trans bA) (by rw [q4]; exact hf.mono q3.ext) q1.2
theorem ee {K':St→Prop} (hK:∀ s,K s→K' s):∀ (T:DT) (s:St),qn E f ops.toList T K s→qn E f ops.toList T K' s
 | .done,s,h=>hK s h
 | .stop,_,_=>trivial
 | .take j C T,s,h=>by
  unfold qn at h ⊢
  split
  ·rename_i oj hj
   rw [hj] at h
   exact bQ h fun s' h'=>ee hK T s' h'
  ·rename_i hj
   rw [hj] at h
   exact h
 | .al j W T,s,h=>by
  unfold qn at h ⊢
  split
  ·rename_i oj hj
   rw [hj] at h
   exact ⟨h.1,bQ h.2 fun s' h'=>ee hK T s' h'⟩
  ·rename_i hj
   rw [hj] at h
   exact h
 | .br i re C T more,s,h=>by
  unfold qn at h ⊢
  refine ⟨?_,ee hK more s h.2⟩
  have h:=h.1
  split
  ·rename_i oj hj
   rw [hj] at h
   exact bQ h fun s' h'=>⟨h'.1,ee hK T s' h'.2⟩
  ·rename_i hj
   rw [hj] at h
   exact h
structure af where
 cF:List (List Nat)
 cf:List (List Nat)
 T:DT
def Cl (ops:Array Oper) (p:af):Bool:=Du (ops.toList.map (jm ops)) fun I=>
 yg ops.size fun n=>yg (2 ^ n - 1) fun N=>ui (Gm p.cF) 0 I&&OR n I&&Ah I 0 I p.cf&&jO I N (Gm p.cF) p.cf p.T n [] 0 none
theorem aY.drawn {R:ai} {w:World} {β:Nat→Nat} {a:Act} (h:aY E R w β s a):aY E R { w with drawn:=w.drawn+1 } β s a∧Step R w β s.boxes R { w with drawn:=w.drawn+1 } β s.boxes:=by
 have e:Ext R w R { w with drawn:=w.drawn+1 }:=⟨fun _ _ h=>h,fun _ _ _=>rfl,fun _ ro h=>⟨ro,h,bW.refl ro⟩,fm.refl w⟩
 refine ⟨⟨⟨h.g.len,fun id go ro h1 h2=>(h.g.obj id go ro h1 h2).mono e (fun _ _=>rfl) (fun _ _ _ h=>h),h.g.inj,h.g.wf,fun g cs hg=>(h.g.bN g cs hg).mono e,Nat.le_succ_of_le h.g.lo⟩,?_,h.t.mono e,h.n,h.d⟩,?_⟩
 ·exact h.b.bq e (fun _ _ _=>rfl) (fun _ _ _ _ h=>h) (fun _ _ _ h=>h)
 ·exact ⟨e,rfl,rfl,rfl,Nat.le_refl _,fun _ _ _=>rfl,fun _ _ h=>h,fun _ _ h _ _=>h⟩
theorem eM.draw {id:Nat} {p:af} {Q:Exit→St→Prop} (dE:Cl ops p=true) (h:qn E f ops.toList p.T (Q .normal) s):eM E (.region id ops true) Q s:=fun R w β a F hr hf=>by
 simp only [Cl,Ai,lA,Bool.and_eq_true] at dE
 obtain ⟨⟨⟨hA,hP⟩,hF⟩,hT⟩:=dE
 refine wpIn_region_any E.mixed ?_
 obtain ⟨q1,q2⟩:=hr.drawn
 have hK:Inv (fun s=>∃ u,nt u s∧Q .normal u):=fun s t e ⟨u,h1,h2⟩=>⟨u,h1.trans e,h2⟩
 have h':=ee (K':=fun s=>∃ u,nt u s∧Q .normal u) (fun s h=>⟨s,nt.refl s,h⟩) p.T s h
 have iw:lx (Gm p.cF) (Array.replicate ops.size false):=fun i hi=>by
  rw [Array.getD_eq_getD_getElem?,Array.getElem?_replicate] at hi
  split at hi <;> cases hi
 have OV:=(mK (E:=E) (f:=f) (Ck hA) hP hF hK p.T ops.size [] (Array.replicate ops.size false) 0 (fun k hk=>by simp at hk) iw ⟨by simp,fun i hi=>by simp [hi]⟩).1 hT s h'
 refine ur (R:=R) (w:=w) (β:=β) (s:=s) (f:=f) (K:=fun s=>∃ u,nt u s∧Q .normal u) ?_ _ _ R _ β s a q1 q2 rfl hf OV
 rintro a' w' ⟨s',R',β',⟨u,e,hu⟩,h2,h3,h4⟩
 exact ⟨u,R',β',hu,h2.eqv e.symm,h3.eqv rfl e.symm.b,e.ro.trans h4⟩
end
end Go.Am
