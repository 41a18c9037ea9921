/- The abstract machine: regions whose order the tape draws,along a tree of choices that was checked. -/
import Derived.Test.YtegoimldbgdeiaaAmKG
set_option linter.all false
namespace Go.Am
open Go
section
variable {E:Env} {s t:St} {f:FuncId} {ops:Array Oper} {o oj oi:Oper} {d:Tmp} {x:SV} {K K':St→Prop} {cR:Nat→List Nat} {C:List Nat}
def D6 (E:Env) (f:FuncId) (ops:Array Oper) (cR:Nat→List Nat) (C:List Nat) (i:Nat) (s:St):Prop:=
 ∀ j∈C,∀ oj oi,ops[j]?=some oj→ops[i]?=some oi→iK oj oi=true→j∉cR i→BH E f ops.toList oj s
def NC (ops:Array Oper) (C:List Nat):Prop:=∀ j∈C,∀ oj,ops[j]?=some oj→qJ oj.op=true
theorem n5 {i:Nat} (hC:NC ops C):Inv (D6 E f ops cR C i):=fun _ _ e h j hj oj oi h1 h2 h3 h4=>H4 (hC j hj oj h1) e (h j hj oj oi h1 h2 h3 h4)
def fw (E:Env) (f:FuncId) (ops:Array Oper) (cR:Nat→List Nat) (C:List Nat) (K:St→Prop):Nat→Array Bool→St→Prop
 | 0,listed,s=>Region.ready .any ops listed=[]∧K s
 | n+1,listed,s=>(Region.ready .any ops listed=[]→K s) ∧
   ∀ i∈Region.ready .any ops listed,∀ oi,ops[i]?=some oi→bL E f ops.toList oi (fun s'=>D6 E f ops cR C i s'∧fw E f ops cR C K n (listed.setIfInBounds i true) s') s
theorem gH (hC:NC ops C) (hK:Inv K):∀ n listed,Inv (fw E f ops cR C K n listed)
 | 0,_=>fun s t e h=>⟨h.1,hK s t e h.2⟩
 | n+1,_=>fun s t e h=>⟨fun h0=>hK s t e (h.1 h0),fun i hi oi qh=>zJ (fun s t e h=>⟨n5 hC s t e h.1,gH hC hK n _ s t e h.2⟩) s t e (h.2 i hi oi qh)⟩
theorem mm {C':List Nat}:∀ n (listed:Array Bool) (s:St),
  (∀ k∈C',k∈C∨∀ i ok oi,ops[k]?=some ok→ops[i]?=some oi→listed.getD i true=false→iK ok oi=true→k∈cR i) →
  fw E f ops cR C K n listed s→fw E f ops cR C' K n listed s
 | 0,_,_,_,h=>h
 | n+1,listed,s,hk,h=>⟨h.1,fun i hi oi qh=>bM (h.2 i hi oi qh) fun s' h'=>⟨fun k Lr ok JQ h1 h2 h3 h4=>by
   rcases hk k Lr with h5 | h5
   ·exact h'.1 k h5 ok JQ h1 h2 h3 h4
   ·exact absurd (h5 i ok JQ h1 h2 (mem_ready.1 hi).1 h3) h4,mm n _ s' (fun k Lr=>by
   rcases hk k Lr with h5 | h5
   ·exact .inl h5
   ·refine .inr fun i' ok JQ h1 h2 h3 h4=>h5 i' ok JQ h1 h2 ?_ h4
    by_cases e:i=i'
    ·subst e; exact (mem_ready.1 hi).1
    ·rw [getD_set_ne true e] at h3; exact h3) h'.2⟩⟩
def wN (ops:Array Oper) (cR:Nat→List Nat):Prop:=∀ i oi a,ops[i]?=some oi→a∈cR i→∃ e∈oi.after,Region.binds .any e=true∧(e.on=a∨a∈cR e.on)
def mn (cR:Nat→List Nat) (listed:Array Bool):Prop:=∀ i,listed.getD i false=true→∀ a∈cR i,listed.getD a false=true
theorem mn.ready {listed:Array Bool} (h:mn cR listed) (ha:wN ops cR) {i:Nat} (hi:i∈Region.ready .any ops listed):∀ a∈cR i,listed.getD a false=true:=fun a QI=>by
 obtain ⟨_,o,ho,qi⟩:=mem_ready.1 hi
 obtain ⟨e,he,hb,h2⟩:=ha i o a ho QI
 rcases h2 with rfl | h2
 ·exact qi e he hb
 ·exact h _ (qi e he hb) a h2
theorem jd {listed:Array Bool} {i:Nat} (h:listed.getD i false=true):listed.getD i true=true:=by
 rw [Array.getD_eq_getD_getElem?] at *
 cases hl:listed[i]? with
 | none=>rw [hl] at h; cases h
 | some b=>rw [hl] at h; exact h
theorem mn.add {listed:Array Bool} (h:mn cR listed) (ha:wN ops cR) {i:Nat} (hi:i∈Region.ready .any ops listed):mn cR (listed.setIfInBounds i true):=fun k hk a QI=>by
 by_cases e:i=k
 ·subst e
  exact getD_set_true (h.ready ha hi a QI)
 ·rw [getD_set_ne false e] at hk
  exact getD_set_true (h k hk a QI)
theorem BN (hA:wN ops cR) (hC:NC ops C) (hK:Inv K) {j:Nat} (hj:ops[j]?=some oj) (hN:qJ oj.op=true) (CO:oj.dst=some d) (zL:d∉oj.looksAt ops)
  (RJ:∀ k∈C,∀ ok,ops[k]?=some ok→d∉ok.looksAt ops∧ok.dst≠some d):∀ n (listed:Array Bool) (s:St) (x:SV),mn cR listed →
   (∀ i oi,ops[i]?=some oi→i≠j→listed.getD i true=false→(∀ e∈oi.after,Region.binds .any e=true→e.on≠j)→oj.apart ops oi=true) →
   j∈Region.ready .any ops listed→ur E f ops oj s x→fw E f ops cR (j :: C) K n (listed.setIfInBounds j true) (s.put (some d) x)→fw E f ops cR C K (n+1) listed s:=by
 have Hw:NC ops (j :: C):=fun k hk ok ho=>by
  rcases List.mem_cons.1 hk with rfl | hk
  ·rw [hj] at ho; cases ho; exact hN
  ·exact hC k hk ok ho
 have self:∀ n (listed:Array Bool) (s:St) (x:SV),ur E f ops oj s x→fw E f ops cR (j :: C) K n (listed.setIfInBounds j true) (s.put (some d) x)→∀ oi,ops[j]?=some oi →
   bL E f ops.toList oi (fun s'=>D6 E f ops cR C j s'∧fw E f ops cR C K n (listed.setIfInBounds j true) s') s:=fun n listed s x hx h oi qh=>by
  rw [hj] at qh
  cases qh
  refine uv hN (fun s t e h=>⟨n5 hC s t e h.1,gH hC hK _ _ s t e h.2⟩) hx ?_
  rw [CO]
  refine ⟨fun k _ ok JQ _ h2 h3 _=>?_,mm n _ _ (fun k hk=>.inl (List.mem_cons_of_mem _ hk)) h⟩
  rw [hj] at h2
  cases h2
  simp [iK,zH hN,hN] at h3
 intro n
 induction n with
 | zero=>
  intro listed s x _ _ hr hx h
  refine ⟨fun h0=>by rw [h0] at hr; simp at hr,fun i hi oi qh=>?_⟩
  by_cases e:i=j
  ·subst e; exact self 0 listed s x hx h oi qh
  ·have:=ready_mono hi e
   rw [h.1] at this
   simp at this
 | succ n ih=>
  intro listed s x jb jR hr hx h
  refine ⟨fun h0=>by rw [h0] at hr; simp at hr,fun i hi oi qh=>?_⟩
  by_cases e:i=j
  ·subst e; exact self (n+1) listed s x hx h oi qh
  ·have FK:=(mem_ready.1 hi).1
   have H9:=(mem_ready.1 hr).1
   have KY:∀ ed∈oi.after,Region.binds .any ed=true→ed.on≠j:=fun ed he hb jH=>by
    obtain ⟨_,o,ho,qi⟩:=mem_ready.1 hi
    rw [qh] at ho
    cases ho
    have h1:=jd (qi ed he hb)
    rw [jH,H9] at h1
    cases h1
   have NW:=jR i oi qh e FK KY
   have hG:=h.2 i (ready_mono hi e) oi qh
   have FL:j∉cR i:=fun hm=>by
    have h1:=jd (jb.ready hA hi j hm)
    rw [H9] at h1
    cases h1
   have QJ:Inv (fun s'=>D6 E f ops cR (j :: C) i s'∧fw E f ops cR (j :: C) K n ((listed.setIfInBounds j true).setIfInBounds i true) s'):=
    fun s t e h=>⟨n5 Hw s t e h.1,gH Hw hK _ _ s t e h.2⟩
   have Ls:∀ k ok,ops[k]?=some ok→k≠j→(listed.setIfInBounds i true).getD k true=false→(∀ e∈ok.after,Region.binds .any e=true→e.on≠j)→oj.apart ops ok=true:=fun k ok hk RK O8 q8=>by
    refine jR k ok hk RK ?_ q8
    by_cases e':i=k
    ·subst e'; exact FK
    ·rw [getD_set_ne true e'] at O8; exact O8
   have core:∀ {pre:aT} {preB:ck} {G:List GO},NU (bB oi.op) oi.dst pre→(qJ oi.op=true→preB=[]∧G=s.G) →
     (D6 E f ops cR (j :: C) i ((s.put (some d) x).e7 pre preB G)∧fw E f ops cR (j :: C) K n ((listed.setIfInBounds j true).setIfInBounds i true) ((s.put (some d) x).e7 pre preB G)) →
     D6 E f ops cR C i (s.e7 pre preB G)∧fw E f ops cR C K (n+1) (listed.setIfInBounds i true) (s.e7 pre preB G):=by
    intro pre preB G zM O6 hk
    obtain ⟨x',sy,iY⟩:=D0 hN CO zL NW QJ hx zM O6 hk (fun t' BO hd=>BO.1 j (List.mem_cons_self ..) oj oi hj qh hd FL)
    refine ⟨fun k Lr ok JQ h1 h2 h3 h4=>?_,?_⟩
    ·obtain ⟨q1,q2⟩:=RJ k Lr ok h1
     obtain ⟨b1,b2,b3,_⟩:=fM (s.e7 pre preB G) (some d) x'
     exact H3 (hC k Lr ok h1) q1 q2 (fun e he=>sZ _ _ _ he) (by rw [b1]) b2 b3 (iY.1 k (List.mem_cons_of_mem _ Lr) ok JQ h1 h2 h3 h4)
    ·refine ih (listed.setIfInBounds i true) _ x' (jb.add hA hi) Ls (ready_mono hr (Ne.symm e)) sy ?_
     rw [Array.setIfInBounds_comm _ _ e]
     exact iY.2
   rw [fL (fun s t e h=>⟨n5 hC s t e h.1,gH hC hK _ _ s t e h.2⟩)]
   obtain ⟨HV,_,_⟩:=Oper.apart_spec NW
   have tK:∀ e∈oi.looksAt ops,lk (s.put (some d) x).ae e=lk s.ae e:=fun e he=>sZ s d x fun k=>HV d CO (k ▸ he)
   obtain ⟨b1,b2,b3,b4,b5⟩:=fM s (some d) x
   rcases (fL QJ).1 hG with ⟨h1,h2⟩ | ⟨h1,h2⟩
   ·refine .inl ⟨by rw [← jJ tK]; exact h1,rm b3 b2 (by rw [b1]) (jW tK) h2 fun pre preB G hp O6 hk=>core hp (fun hh=>?_) hk⟩
    obtain ⟨q1,q2⟩:=O6 hh
    exact ⟨q1,by rw [q2,b2]⟩
   ·refine .inr ⟨by rw [← jJ tK]; exact h1,?_⟩
    obtain ⟨pre,preB,G,p1,p2,p3,p4⟩:=bt.put (s:=s.put (some d) x) (t:=s) (al:=bB oi.op) (w:=false) b3 b2 oi.dst (.v fD)
    obtain ⟨q1,q2,_⟩:=p2 rfl
    rw [p3] at h2
    rw [p4]
    exact core p1 (fun _=>⟨q1,by rw [q2,b2]⟩) h2
theorem CR {i:Nat} {s:St}:D6 E f ops cR [] i s:=fun j hj=>by cases hj
theorem Lt {y:Operand} {k off:Nat} (h:bc E s.ae y=.lp k off):∃ e,y=.tmp e∧lk s.ae e=.lp k off:=by
 cases y with
 | tmp e=>exact ⟨e,rfl,h⟩
 | const v=>simp only [bc] at h; split at h <;> cases h
 | global g=>simp only [bc] at h; split at h <;> cases h
 | func g=>cases h
theorem FM (hA:wN ops cR) (hK:Inv K) {j:Nat} (hj:ops[j]?=some oj) (hg:oj.guard=none) (CO:oj.dst=some d) (D1:bB oj.op=true) (Lu:E.vE f d=false):∀ n (listed:Array Bool) (s s1:St),mn cR listed →
  (∀ i oi,ops[i]?=some oi→i≠j→listed.getD i true=false→j∉cR i→oj.apart ops oi=true∧∀ e∈oi.looksAt ops,∀ off,lk s.ae e≠.lp d off) →
  j∈Region.ready .any ops listed→an E f s oj=some (true,s1)→fw E f ops cR [] K n (listed.setIfInBounds j true) s1→fw E f ops cR [] K (n+1) listed s:=by
 have Hw:NC ops []:=fun k hk=>by cases hk
 have self:∀ n (listed:Array Bool) (s s1:St),an E f s oj=some (true,s1)→fw E f ops cR [] K n (listed.setIfInBounds j true) s1→∀ oi,ops[j]?=some oi →
   bL E f ops.toList oi (fun s'=>D6 E f ops cR [] j s'∧fw E f ops cR [] K n (listed.setIfInBounds j true) s') s:=fun n listed s s1 hx h oi qh=>by
  rw [hj] at qh
  cases qh
  unfold bL
  rw [hg]
  exact (CQ D1).2 ⟨s1,hx,CR,h⟩
 intro n
 induction n with
 | zero=>
  intro listed s s1 _ _ hr hx h
  refine ⟨fun h0=>by rw [h0] at hr; simp at hr,fun i hi oi qh=>?_⟩
  by_cases e:i=j
  ·subst e; exact self 0 listed s s1 hx h oi qh
  ·have:=ready_mono hi e
   rw [h.1] at this
   simp at this
 | succ n ih=>
  intro listed s s1 jb jR hr hx h
  refine ⟨fun h0=>by rw [h0] at hr; simp at hr,fun i hi oi qh=>?_⟩
  by_cases e:i=j
  ·subst e; exact self (n+1) listed s s1 hx h oi qh
  ·have FK:=(mem_ready.1 hi).1
   have H9:=(mem_ready.1 hr).1
   have FL:j∉cR i:=fun hm=>by
    have h1:=jd (jb.ready hA hi j hm)
    rw [H9] at h1
    cases h1
   obtain ⟨NW,q8⟩:=jR i oi qh e FK FL
   obtain ⟨HV,cq,tU⟩:=Oper.apart_spec NW
   have FJ:oi.dst≠some d:=cq d CO
   obtain ⟨_,cs,rfl,CG⟩:=BL D1 CO Lu hx
   have hG:=h.2 i (ready_mono hi e) oi qh
   have QJ:Inv (fun s'=>D6 E f ops cR [] i s'∧fw E f ops cR [] K n ((listed.setIfInBounds j true).setIfInBounds i true) s'):=
    fun s t e h=>⟨n5 Hw s t e h.1,gH Hw hK _ _ s t e h.2⟩
   have D5:∀ y∈oi.op.operands,∀ off,bc E s.ae y≠.lp d off:=fun y hy off hv=>by
    obtain ⟨e',rfl,hv⟩:=Lt hv
    exact q8 e' (ml hy) off hv
   have core:∀ {pre:aT} {preB:ck} {G:List GO},gW E s oi (s.e7 pre preB G) →
     (D6 E f ops cR [] i ((pj s d cs).e7 pre preB G)∧fw E f ops cR [] K n ((listed.setIfInBounds j true).setIfInBounds i true) ((pj s d cs).e7 pre preB G)) →
     D6 E f ops cR [] i (s.e7 pre preB G)∧fw E f ops cR [] K (n+1) (listed.setIfInBounds i true) (s.e7 pre preB G):=by
    intro pre preB G H8 hk
    refine ⟨CR,?_⟩
    obtain ⟨o1,o2⟩:=CP H8
    have tK:∀ e' off,oi.dst≠some e'∨lk (s.e7 pre preB G).ae e'=.lp d off→lk (s.e7 pre preB G).ae e'=.lp d off→lk s.ae e'=.lp d off:=by
     intro e' off _ hv
     have hv:lk (pre++s.ae) e'=.lp d off:=hv
     rcases o1 with rfl | ⟨d',x,vC,hp,Ia⟩
     ·exact hv
     ·have sy:∀ off,x≠.lp d off:=fun off c=>by
       rcases Ia d off c with ⟨y,hy,fE,ho⟩ | ⟨_,h⟩
       ·exact D5 y hy fE ho
       ·exact FJ (by rw [vC,h])
      by_cases c2:d'=e'
      ·subst c2
       rcases hp with rfl | rfl
       ·simp only [List.cons_append,List.nil_append,aw] at hv; exact absurd hv (sy off)
       ·simp only [List.cons_append,List.nil_append,aw] at hv; exact absurd hv (sy off)
      ·rcases hp with rfl | rfl
       ·simp only [List.cons_append,List.nil_append] at hv; rwa [aG c2] at hv
       ·simp only [List.cons_append,List.nil_append] at hv
        rw [aG c2,iL] at hv
        cases hl:lk s.ae e' with
        | lp k fE=>
         rw [hl] at hv
         simp only at hv
         cases hb:Nat.beq k d' with
         | true=>rw [hb] at hv; cases hv
         | false=>rw [hb] at hv; exact hv
        | v a=>rw [hl] at hv; cases hv
        | none=>rw [hl] at hv; cases hv
    refine ih (listed.setIfInBounds i true) _ _ (jb.add hA hi) ?_ (ready_mono hr (Ne.symm e)) (CG (s.e7 pre preB G) rfl ?_) ?_
    ·intro k ok iY RK O8 RL
     have RM:listed.getD k true=false:=by
      by_cases e':i=k
      ·subst e'; exact FK
      ·rw [getD_set_ne true e'] at O8; exact O8
     obtain ⟨q1,q2⟩:=jR k ok iY RK RM RL
     exact ⟨q1,fun e' Hx off hv=>q2 e' Hx off (tK e' off (.inr hv) hv)⟩
    ·intro y hy v hv
     cases y with
     | tmp e'=>
      have vC:oi.dst≠some e':=fun c=>tU e' c (ml hy)
      have hv:lk s.ae e'=.v v:=hv
      show lk (pre++s.ae) e'=.v v
      rcases o1 with rfl | ⟨d',x,Ll,hp,_⟩
      ·exact hv
      ·have c2:d'≠e':=fun c=>vC (by rw [Ll,c])
       rcases hp with rfl | rfl
       ·simp only [List.cons_append,List.nil_append]; rw [aG c2]; exact hv
       ·simp only [List.cons_append,List.nil_append]
        rw [aG c2,ux (fun off=>by rw [hv]; intro c; cases c)]; exact hv
     | const _=>exact hv
     | global _=>exact hv
     | func _=>exact hv
    ·rw [Array.setIfInBounds_comm _ _ e]
     exact gH Hw hK _ _ _ _ (D4 cs H8 FJ D5) hk.2
   have xV:∀ e'∈oi.looksAt ops,lk (pj s d cs).ae e'=lk s.ae e':=fun e' Hx=>by
    have c1:d≠e':=fun c=>HV d CO (c ▸ Hx)
    show lk (.put d (.lp d 0) :: .kill d :: s.ae) e'=_
    rw [aG c1,ux (q8 e' Hx)]
   have Bf:∀ k off,(∃ y∈oi.op.operands,bc E (pj s d cs).ae y=.lp k off)→de (pj s d cs).boxes k=de s.boxes k:=by
    rintro k off ⟨y,hy,hv⟩
    rw [jW xV y hy] at hv
    have Hn:d≠k:=fun c=>D5 y hy off (by rw [c]; exact hv)
    show de ((d,cs) :: s.boxes) k=de s.boxes k
    simp only [de]
    cases hb:Nat.beq d k with
    | true=>exact absurd (Nat.eq_of_beq_eq_true hb) Hn
    | false=>rfl
   rw [fL (fun s t e h=>⟨n5 Hw s t e h.1,gH Hw hK _ _ s t e h.2⟩)]
   rcases (fL QJ).1 hG with ⟨h1,h2⟩ | ⟨h1,h2⟩
   ·exact .inl ⟨by rw [← jJ xV]; exact h1,BM (s:=pj s d cs) (t:=s) rfl rfl Bf (jW xV) h2 fun pre preB G hO hk=>core hO hk⟩
   ·refine .inr ⟨by rw [← jJ xV]; exact h1,?_⟩
    obtain ⟨pre,preB,G,p1,p2,p3,p4⟩:=bt.put (s:=pj s d cs) (t:=s) (al:=bB oi.op) (w:=false) rfl rfl oi.dst (.v fD)
    rw [p3] at h2
    have hO:gW E s oi (s.put oi.dst (.v fD)):=jX rfl rfl _
    rw [p4] at hO ⊢
    exact core hO h2
end
inductive DT where
 | done
 | take (j:Nat) (C:List Nat) (t:DT)
 | br (i:Nat) (re C:List Nat) (t:DT) (more:DT)
 | stop
 | al (j:Nat) (W:List Nat) (t:DT)
structure mo where
 dst:Option Tmp
 lo:List Tmp
 pr:List Nat
 n:Bool
 r:Bool
 a:Bool
def CS (d:Nat) (s:aT):List Nat→Bool
 | []=>true
 | e :: l=>(match lk s e with
  | .lp k _=>!Nat.beq k d
  | _=>true)&&CS d s l
def Lv (E:Env) (f:FuncId) (o:Oper) (W:List Nat) (s:St):Bool:=match o.guard,o.dst with
 | none,some d=>!E.vE f d&&CS d s.ae W
 | _,_=>false
def je (x:Nat):List Nat→Bool
 | []=>false
 | y :: l=>Nat.beq x y || je x l
def n6:List Edge→List Nat
 | []=>[]
 | e :: l=>bif Region.binds .any e then e.on :: n6 l else n6 l
def jY (ops:Array Oper) (o:Oper):mo:=⟨o.dst,o.looksAt ops,n6 o.after.toList,qJ o.op,Lq o.op,bB o.op⟩
def xW {α:Type} (n:Nat) (K:Nat→α):α:=match n with
 | 0=>K 0
 | m+1=>K (Nat.succ m)
def wO {α:Type}:List Nat→(List Nat→α)→α
 | [],K=>K []
 | a :: l,K=>xW a fun a=>wO l fun l=>K (a :: l)
def Lw {α:Type} (i:mo) (K:mo→α):α:=match i with
 | ⟨d,lo,pr,n,r,a⟩=>wO lo fun lo=>wO pr fun pr=>(match d with
  | none=>(fun (K:Option Tmp→α)=>K none)
  | some d=>(fun (K:Option Tmp→α)=>xW d fun d=>K (some d))) fun d=>(bif n then (fun (K:Bool→α)=>K true) else fun K=>K false) fun n=>
   (bif r then (fun (K:Bool→α)=>K true) else fun K=>K false) fun r=>(bif a then (fun (K:Bool→α)=>K true) else fun K=>K false) fun a=>K ⟨d,lo,pr,n,r,a⟩
def CT {α:Type}:List mo→(List mo→α)→α
 | [],K=>K []
 | i :: l,K=>Lw i fun i=>CT l fun l=>K (i :: l)
def rq (x y:mo):Bool:=
 (match x.dst with
 | some d=>!je d y.lo&&(match y.dst with | some e=>!Nat.beq e d | none=>true)
 | none=>true) &&
 (match y.dst with
 | some d=>!je d x.lo
 | none=>true)
def zO (j:Nat) (x:mo) (cf:List Nat):Nat→List mo→Bool
 | _,[]=>true
 | i,y :: l=>(Nat.beq i j || je j y.pr || je i cf || rq x y)&&zO j x cf (i+1) l
def zP (I:List mo):Nat→List mo→List (List Nat)→Bool
 | _,[],_=>true
 | j,x :: l,c :: cs=>(!x.n || zO j x c 0 I)&&zP I (j+1) l cs
 | _,_,_=>false
def uy (cR:Nat→List Nat):Nat→List mo→Bool
 | _,[]=>true
 | i,x :: l=>(cR i).all (fun a=>x.pr.any fun e=>Nat.beq e a || je a (cR e))&&uy cR (i+1) l
def mq (L:Nat):Nat→List mo→List Nat
 | _,[]=>[]
 | i,x :: l=>bif !L.testBit i&&x.pr.all (fun e=>L.testBit e) then i :: mq L (i+1) l else mq L (i+1) l
def n7 (x y:mo):Bool:=y.a || (x.r&&!y.n)
def n8 (cR:Nat→List Nat) (L k:Nat) (x:mo):Nat→List mo→Bool
 | _,[]=>true
 | i,y :: l=>(L.testBit i || !n7 x y || je k (cR i))&&n8 cR L k x (i+1) l
def s5 (I:List mo) (cR:Nat→List Nat) (L:Nat) (C C':List Nat):Bool:=C.all fun k=>je k C' || match nth I k with
 | none=>false
 | some x=>n8 cR L k x 0 I
def JR (I:List mo) (cR:Nat→List Nat) (C re:List Nat) (i:Nat) (y:mo):Bool:=C.all fun k=>je k re || match nth I k with
 | none=>false
 | some x=>!n7 x y || je k (cR i)
def CU (cR:Nat→List Nat) (L:Nat) (W:List Nat) (j:Nat) (x:mo):Nat→List mo→Bool
 | _,[]=>true
 | i,y :: l=>(Nat.beq i j || L.testBit i || je j (cR i) || (rq x y&&y.lo.all fun e=>je e W))&&CU cR L W j x (i+1) l
def CV (I:List mo) (C:List Nat):Bool:=C.all fun k=>match nth I k with
 | some x=>x.n
 | none=>false
def kz (I:List mo) (N:Nat) (cR:Nat→List Nat) (cf:List (List Nat)):DT→Nat→List Nat→Nat→Option (List Nat)→Bool
 | .done,_,_,L,none=>Nat.beq L N
 | .take j C' t,n+1,C,L,none=>match nth I j,nth cf j with
  | some x,some c=>match x.dst with
   | none=>false
   | some d=>x.n&&!je d x.lo&&(C.all fun k=>match nth I k with
     | none=>false
     | some y=>!je d y.lo&&(match y.dst with | some e=>!Nat.beq e d | none=>true)) &&
    c.all (fun i=>L.testBit i)&&!L.testBit j&&x.pr.all (fun e=>L.testBit e)&&CV I C' &&
    xW (L ||| 2 ^ j) fun L'=>s5 I cR L' (j :: C) C'&&kz I N cR cf t n C' L' none
  | _,_=>false
 | .br i re C' t more,n+1,C,L,left=>match nth I i with
  | none=>false
  | some y=>(match left with
   | none=>fun (K:List Nat→Bool)=>wO (mq L 0 I) K
   | some l=>fun K=>K l) fun l=>
    JR I cR C re i y&&CV I C'&&je i l&&(xW (L ||| 2 ^ i) fun L'=>s5 I cR L' C C'&&kz I N cR cf t n C' L' none) &&
     kz I N cR cf more (n+1) C L (some (l.filter fun k=>!Nat.beq k i))
 | .stop,_,_,_,some l=>l.isEmpty
 | .al j W t,n+1,C,L,none=>match nth I j with
  | some x=>match x.dst with
   | none=>false
   | some _=>C.isEmpty&&x.a&&!L.testBit j&&x.pr.all (fun e=>L.testBit e)&&CU cR L W j x 0 I&&xW (L ||| 2 ^ j) fun L'=>kz I N cR cf t n [] L' none
  | none=>false
 | _,_,_,_,_=>false
def wP (E:Env) (f:FuncId) (ops:List Oper):List Nat→St→Prop
 | [],_=>True
 | k :: l,s=>(match nth ops k with
  | some ok=>BH E f ops ok s
  | none=>True)∧wP E f ops l s
def qK (E:Env) (f:FuncId) (ops:List Oper):DT→(St→Prop)→St→Prop
 | .done,K,s=>K s
 | .take j _ t,K,s=>match nth ops j with
  | some oj=>bL E f ops oj (qK E f ops t K) s
  | none=>False
 | .br i re _ t more,K,s=>(match nth ops i with
  | some oi=>bL E f ops oi (fun s'=>wP E f ops re s'∧qK E f ops t K s') s
  | none=>False)∧qK E f ops more K s
 | .stop,_,_=>True
 | .al j W t,K,s=>match nth ops j with
  | some oj=>Lv E f oj W s=true∧bL E f ops oj (qK E f ops t K) s
  | none=>False
def FN (l:List (List Nat)) (i:Nat):List Nat:=match nth l i with
 | some a=>a
 | none=>[]
section
variable {E:Env} {s t:St} {f:FuncId} {ops:Array Oper} {K:St→Prop} {cR:Nat→List Nat}
theorem eD {x:Nat}:∀ {l:List Nat},je x l=true↔x∈l
 | []=>by simp [je]
 | y :: l=>by simp [je,eD (l:=l)]
theorem mr {α:Type} (n:Nat) (K:Nat→α):xW n K=K n:=by cases n <;> rfl
theorem uz {α:Type}:∀ (l:List Nat) (K:List Nat→α),wO l K=K l
 | [],_=>rfl
 | a :: l,K=>by simp only [wO,mr]; rw [uz]
theorem Ib {α:Type} (i:mo) (K:mo→α):Lw i K=K i:=by
 obtain ⟨d,lo,pr,n,r,a⟩:=i
 cases d <;> cases n <;> cases r <;> cases a <;> simp [Lw,uz,mr]
theorem zQ {α:Type}:∀ (l:List mo) (K:List mo→α),CT l K=K l
 | [],_=>rfl
 | a :: l,K=>by simp only [CT,Ib]; rw [zQ]
def jZ (ops:Array Oper):List mo:=ops.toList.map (jY ops)
theorem qj {k:Nat} {x:mo} (h:nth (jZ ops) k=some x):∃ o,ops[k]?=some o∧x=jY ops o:=by
 rw [aR,jZ,List.getElem?_map,Array.getElem?_toList] at h
 cases ho:ops[k]? with
 | none=>rw [ho] at h; cases h
 | some o=>rw [ho] at h; exact ⟨o,rfl,by simpa using h.symm⟩
theorem ir {e:Nat}:∀ {l:List Edge},e∈n6 l↔∃ ed∈l,Region.binds .any ed=true∧ed.on=e
 | []=>by simp [n6]
 | x :: l=>by
  unfold n6
  cases hb:Region.binds .any x with
  | true=>
   simp only [cond_true,List.mem_cons,ir (l:=l),exists_eq_or_imp,hb,true_and]
   constructor
   ·rintro (h | h)
    ·exact .inl h.symm
    ·exact .inr h
   ·rintro (h | h)
    ·exact .inl h.symm
    ·exact .inr h
  | false=>simp only [cond_false,List.mem_cons,ir (l:=l),exists_eq_or_imp,hb,false_and,false_or,Bool.false_eq_true]
theorem wQ {x y:Oper} (h:rq (jY ops x) (jY ops y)=true):x.apart ops y=true:=by
 have hm:∀ (d:Nat) (l:List Nat),je d l=false→l.contains d=false:=fun d l h=>by
  cases hc:l.contains d with
  | false=>rfl
  | true=>rw [eD.2 (by simpa using hc)] at h; cases h
 unfold rq at h
 unfold Oper.apart
 simp only [jY,Bool.and_eq_true] at h ⊢
 refine ⟨?_,?_⟩
 ·cases hx:x.dst with
  | none=>rfl
  | some d=>
   rw [hx] at h
   simp only [Bool.and_eq_true,Bool.not_eq_true'] at h ⊢
   refine ⟨hm _ _ h.1.1,?_⟩
   have h2:=h.1.2
   cases hy:y.dst with
   | none=>rfl
   | some e=>
    rw [hy] at h2
    simp only [Bool.not_eq_true'] at h2
    have:e≠d:=fun k=>by rw [k,pJ] at h2; cases h2
    simpa using this
 ·cases hy:y.dst with
  | none=>rfl
  | some d=>
   rw [hy] at h
   simp only [Bool.not_eq_true'] at h ⊢
   exact hm _ _ h.2
def zR (ops:Array Oper) (L:Nat) (listed:Array Bool):Prop:=listed.size=ops.size∧∀ i,i < ops.size→listed[i]?=some (L.testBit i)
theorem zR.add {L:Nat} {listed:Array Bool} (h:zR ops L listed) (j:Nat):zR ops (L ||| 2 ^ j) (listed.setIfInBounds j true):=by
 refine ⟨by simp [h.1],fun i hi=>?_⟩
 rw [Nat.testBit_or,Nat.testBit_two_pow]
 by_cases e:j=i
 ·subst e
  rw [Array.getElem?_setIfInBounds_self_of_lt (by rw [h.1]; exact hi)]
  simp
 ·rw [Array.getElem?_setIfInBounds_ne e,h.2 i hi]
  simp [e]
theorem zR.zS {L:Nat} {listed:Array Bool} (h:zR ops L listed) {i:Nat} (hi:i < ops.size) (b:Bool):listed.getD i b=L.testBit i:=by
 rw [Array.getD_eq_getD_getElem?,h.2 i hi]; rfl
theorem pn {L:Nat} {listed:Array Bool} (h:zR ops L listed) {j:Nat} {o:Oper} (ho:ops[j]?=some o) (h1:L.testBit j=false) (h2:((jY ops o).pr.all fun e=>L.testBit e)=true)
  (bK:∀ e∈o.after,Region.binds .any e=true→e.on < ops.size):j∈Region.ready .any ops listed:=by
 have hj:j < ops.size:=(Array.getElem?_eq_some_iff.1 ho).1
 refine mem_ready.2 ⟨by rw [h.zS hj]; exact h1,o,ho,fun e he hb=>?_⟩
 rw [h.zS (bK e he hb)]
 exact List.all_eq_true.1 h2 e.on (ir.2 ⟨e,by simpa using he,hb,rfl⟩)
def Lx (n:Nat) (I:List mo):Bool:=I.all fun x=>x.pr.all fun e=>Nat.blt e n
theorem gm {k:Nat} {o:Oper} (h:ops[k]?=some o):nth (jZ ops) k=some (jY ops o):=by
 rw [aR,jZ,List.getElem?_map,Array.getElem?_toList,h]; rfl
theorem j3 {k:Nat} {o:Oper} (h:ops[k]?=some o):(jZ ops)[k]?=some (jY ops o):=by
 rw [← aR]; exact gm h
theorem n9 (h:Lx ops.size (jZ ops)=true) {k:Nat} {o:Oper} (ho:ops[k]?=some o):∀ e∈o.after,Region.binds .any e=true→e.on < ops.size:=fun e he hb=>by
 have h1:=List.all_eq_true.1 h (jY ops o) (List.mem_of_getElem? (j3 ho))
 have h2:=List.all_eq_true.1 h1 e.on (ir.2 ⟨e,by simpa using he,hb,rfl⟩)
 exact Nat.le_of_ble_eq_true h2
theorem uA {j:Nat} {x:mo} {c:List Nat}:∀ {l:List mo} {i:Nat},zO j x c i l=true→∀ k y,l[k]?=some y→(Nat.beq (i+k) j || je j y.pr || je (i+k) c || rq x y)=true
 | [],_,_,k,y,hk=>by simp at hk
 | z :: l,i,h,k,y,hk=>by
  unfold zO at h
  rw [Bool.and_eq_true] at h
  cases k with
  | zero=>simp at hk; subst hk; exact h.1
  | succ k=>
   have:=uA h.2 k y (by simpa using hk)
   rw [show i+1+k=i+(k+1) by omega] at this
   exact this
theorem uB {I:List mo}:∀ {l:List mo} {j:Nat} {cs:List (List Nat)},zP I j l cs=true→∀ k x c,l[k]?=some x→cs[k]?=some c→x.n=true→zO (j+k) x c 0 I=true
 | [],_,_,_,k,x,c,hk,_,_=>by simp at hk
 | z :: l,j,[],_,k,x,c,_,hc,_=>by simp at hc
 | z :: l,j,d :: cs,h,k,x,c,hk,hc,hn=>by
  unfold zP at h
  rw [Bool.and_eq_true] at h
  cases k with
  | zero=>
   simp at hk hc
   subst hk hc
   have:=h.1
   rw [hn] at this
   simpa using this
  | succ k=>
   have:=uB h.2 k x c (by simpa using hk) (by simpa using hc) hn
   rw [show j+1+k=j+(k+1) by omega] at this
   exact this
theorem se:∀ {l:List mo} {i:Nat},uy cR i l=true→∀ k x,l[k]?=some x→∀ a∈cR (i+k),∃ e∈x.pr,e=a∨a∈cR e
 | [],_,_,k,x,hk=>by simp at hk
 | z :: l,i,h,k,x,hk=>by
  unfold uy at h
  rw [Bool.and_eq_true] at h
  cases k with
  | zero=>
   simp at hk
   subst hk
   intro a ha
   have h1:=List.all_eq_true.1 h.1 a ha
   obtain ⟨e,he,h2⟩:=List.any_eq_true.1 h1
   rw [Bool.or_eq_true] at h2
   refine ⟨e,he,?_⟩
   rcases h2 with h2 | h2
   ·exact .inl (Nat.eq_of_beq_eq_true h2)
   ·exact .inr (eD.1 h2)
  | succ k=>
   have:=se h.2 k x (by simpa using hk)
   rw [show i+1+k=i+(k+1) by omega] at this
   exact this
theorem BP (h:uy cR 0 (jZ ops)=true):wN ops cR:=fun i oi a hi ha=>by
 have h1:=se h i _ (j3 hi) a (by rw [Nat.zero_add]; exact ha)
 obtain ⟨e,he,h2⟩:=h1
 obtain ⟨ed,q1,q2,rfl⟩:=ir.1 he
 exact ⟨ed,by simpa using q1,q2,h2⟩
theorem nw {L:Nat}:∀ {l:List mo} {i k:Nat},k∈mq L i l↔∃ j x,k=i+j∧l[j]?=some x∧L.testBit k=false∧(x.pr.all fun e=>L.testBit e)=true
 | [],i,k=>by simp [mq]
 | z :: l,i,k=>by
  have ih:=nw (L:=L) (l:=l) (i:=i+1) (k:=k)
  have rest:(∃ j x,k=i+1+j∧l[j]?=some x∧L.testBit k=false∧(x.pr.all fun e=>L.testBit e)=true)↔∃ j x,k=i+(j+1)∧(z :: l)[j+1]?=some x∧L.testBit k=false∧(x.pr.all fun e=>L.testBit e)=true:=by
   constructor
   ·rintro ⟨j,x,h1,h2⟩; exact ⟨j,x,by omega,by simpa using h2⟩
   ·rintro ⟨j,x,h1,h2⟩; exact ⟨j,x,by omega,by simpa using h2⟩
  unfold mq
  cases hc:(!L.testBit i&&z.pr.all fun e=>L.testBit e) with
  | true=>
   simp only [cond_true,List.mem_cons,ih,rest]
   rw [Bool.and_eq_true,Bool.not_eq_true'] at hc
   constructor
   ·rintro (rfl | ⟨j,x,h⟩)
    ·exact ⟨0,z,rfl,rfl,hc⟩
    ·exact ⟨j+1,x,h⟩
   ·rintro ⟨j,x,h1,h2⟩
    cases j with
    | zero=>exact .inl h1
    | succ j=>exact .inr ⟨j,x,h1,h2⟩
  | false=>
   simp only [cond_false,ih,rest]
   constructor
   ·rintro ⟨j,x,h⟩; exact ⟨j+1,x,h⟩
   ·rintro ⟨j,x,h1,h2,h3,h4⟩
    cases j with
    | zero=>
     simp at h2 h1
     subst h1 h2
     rw [h3,h4] at hc
     cases hc
    | succ j=>exact ⟨j,x,h1,h2,h3,h4⟩
theorem ny {L k:Nat} {x:mo}:∀ {l:List mo} {i:Nat},n8 cR L k x i l=true→∀ j y,l[j]?=some y→L.testBit (i+j)=false→n7 x y=true→k∈cR (i+j)
 | [],_,_,j,y,hj=>by simp at hj
 | z :: l,i,h,j,y,hj=>by
  unfold n8 at h
  rw [Bool.and_eq_true] at h
  cases j with
  | zero=>
   simp at hj
   subst hj
   intro h1 h2
   have h3:=h.1
   rw [Nat.add_zero] at h1
   rw [h1,h2] at h3
   exact eD.1 (by simpa using h3)
  | succ j=>
   have:=ny h.2 j y (by simpa using hj)
   rw [show i+1+j=i+(j+1) by omega] at this
   exact this
theorem sf {L:Nat} {listed:Array Bool} (hM:zR ops L listed) {C C':List Nat} (h:s5 (jZ ops) cR L C C'=true):∀ k∈C,k∈C'∨∀ i ok oi,ops[k]?=some ok→ops[i]?=some oi→listed.getD i true=false→iK ok oi=true→k∈cR i:=fun k hk=>by
 have h1:=List.all_eq_true.1 h k hk
 rw [Bool.or_eq_true] at h1
 rcases h1 with h1 | h1
 ·exact .inl (eD.1 h1)
 ·refine .inr fun i ok oi q1 q2 q3 q4=>?_
  rw [gm q1] at h1
  have hi:i < ops.size:=(Array.getElem?_eq_some_iff.1 q2).1
  have:=ny h1 i _ (j3 q2) (by rw [Nat.zero_add,← hM.zS hi]; exact q3) q4
  rw [Nat.zero_add] at this
  exact this
theorem wR {C:List Nat} (h:CV (jZ ops) C=true):NC ops C:=fun k hk ok eW=>by
 have:=List.all_eq_true.1 h k hk
 rw [gm eW] at this
 exact this
theorem uC {L j:Nat} {x:mo} {W:List Nat}:∀ {l:List mo} {i:Nat},CU cR L W j x i l=true→∀ k y,l[k]?=some y→(Nat.beq (i+k) j || L.testBit (i+k) || je j (cR (i+k)) || (rq x y&&y.lo.all fun e=>je e W))=true
 | [],_,_,k,y,hk=>by simp at hk
 | z :: l,i,h,k,y,hk=>by
  unfold CU at h
  rw [Bool.and_eq_true] at h
  cases k with
  | zero=>simp at hk; subst hk; exact h.1
  | succ k=>
   have:=uC h.2 k y (by simpa using hk)
   rw [show i+1+k=i+(k+1) by omega] at this
   exact this
theorem uD {d:Nat} {s:aT}:∀ {l:List Nat},CS d s l=true→∀ e∈l,∀ off,lk s e≠.lp d off
 | [],_,e,he,_=>by cases he
 | a :: l,h,e,he,off=>by
  unfold CS at h
  rw [Bool.and_eq_true] at h
  rcases List.mem_cons.1 he with rfl | he
  ·intro hv
   have h1:=h.1
   rw [hv] at h1
   simp only [pJ] at h1
   cases h1
  ·exact uD h.2 e he off
theorem nA {cf:List (List Nat)} (hA:wN ops cR) (hP:Lx ops.size (jZ ops)=true) (hF:zP (jZ ops) 0 (jZ ops) cf=true) (hK:Inv K):∀ (T:DT) (n:Nat) (C:List Nat) (listed:Array Bool) (L:Nat),NC ops C→mn cR listed→zR ops L listed →
  (kz (jZ ops) (2 ^ ops.size - 1) cR cf T n C L none=true→∀ s,qK E f ops.toList T K s→fw E f ops cR C K n listed s) ∧
  (∀ m l,n=m+1→kz (jZ ops) (2 ^ ops.size - 1) cR cf T n C L (some l)=true→∀ s,qK E f ops.toList T K s→∀ i∈l,i∈Region.ready .any ops listed→∀ oi,ops[i]?=some oi →
   bL E f ops.toList oi (fun s'=>D6 E f ops cR C i s'∧fw E f ops cR C K m (listed.setIfInBounds i true) s') s)
 | .done,n,C,listed,L,hC,jb,hM=>by
  refine ⟨fun h s hs=>?_,fun m l _ h=>by simp [kz] at h⟩
  have hL:L=2 ^ ops.size - 1:=Nat.eq_of_beq_eq_true (by simpa only [kz] using h)
  have hr:Region.ready .any ops listed=[]:=by
   apply List.eq_nil_iff_forall_not_mem.2
   intro j hj
   obtain ⟨h1,o,ho,_⟩:=mem_ready.1 hj
   have bK:j < ops.size:=(Array.getElem?_eq_some_iff.1 ho).1
   rw [hM.zS bK,hL,Nat.testBit_two_pow_sub_one] at h1
   simp [bK] at h1
  cases n with
  | zero=>exact ⟨hr,hs⟩
  | succ n=>exact ⟨fun _=>hs,fun i hi=>by rw [hr] at hi; simp at hi⟩
 | .stop,n,C,listed,L,hC,jb,hM=>by
  refine ⟨fun h=>by cases n <;> simp [kz] at h,fun m l e h s _ i hi=>?_⟩
  subst e
  have:l=[]:=by simpa [kz] using h
  rw [this] at hi
  simp at hi
 | .al j W T,0,C,listed,L,hC,jb,hM=>⟨fun h=>by simp [kz] at h,fun m l e=>by cases e⟩
 | .al j W T,n+1,C,listed,L,hC,jb,hM=>by
  refine ⟨fun h s hs=>?_,fun m l _ h=>by simp [kz] at h⟩
  unfold kz at h
  split at h
  ·rename_i x hx
   obtain ⟨oj,hj,rfl⟩:=qj hx
   split at h
   ·cases h
   ·rename_i d hd
    simp only [mr,Bool.and_eq_true] at h
    obtain ⟨⟨⟨⟨⟨RN,D1⟩,hbit⟩,O9⟩,tH⟩,hT⟩:=h
    have RN:C=[]:=by simpa using RN
    subst RN
    have D1:bB oj.op=true:=D1
    have hd:oj.dst=some d:=hd
    have uE:j∈Region.ready .any ops listed:=pn hM hj (by simpa using hbit) O9 (n9 hP hj)
    obtain ⟨ih,_⟩:=nA hA hP hF hK T n [] (listed.setIfInBounds j true) (L ||| 2 ^ j) (fun k hk=>by cases hk) (jb.add hA uE) (hM.add j)
    unfold qK at hs
    rw [aR,Array.getElem?_toList,hj] at hs
    simp only at hs
    obtain ⟨eW,hs⟩:=hs
    unfold Lv at eW
    split at eW
    ·rename_i _ d' hg vC
     rw [hd] at vC
     cases vC
     rw [Bool.and_eq_true] at eW
     have Lu:E.vE f d=false:=by simpa using eW.1
     have KU:bL E f ops.toList oj (fw E f ops cR [] K n (listed.setIfInBounds j true)) s:=bM hs fun s' h'=>ih hT s' h'
     unfold bL at KU
     rw [hg] at KU
     obtain ⟨s1,q1,q2⟩:=(CQ D1).1 KU
     refine FM hA hK hj hg hd D1 Lu n listed s s1 jb (fun i oi hi cq FK q8=>?_) uE q1 q2
     have jS:=uC tH i _ (j3 hi)
     rw [Nat.zero_add] at jS
     simp only [Bool.or_eq_true] at jS
     have Ly:i < ops.size:=(Array.getElem?_eq_some_iff.1 hi).1
     rcases jS with ((h1 | h1) | h1) | h1
     ·exact absurd (Nat.eq_of_beq_eq_true h1) cq
     ·rw [hM.zS Ly,h1] at FK; cases FK
     ·exact absurd (eD.1 h1) q8
     ·rw [Bool.and_eq_true] at h1
      exact ⟨wQ h1.1,fun e he off=>uD eW.2 e (eD.1 (List.all_eq_true.1 h1.2 e he)) off⟩
    ·cases eW
  ·cases h
 | .take j C' T,0,C,listed,L,hC,jb,hM=>⟨fun h=>by simp [kz] at h,fun m l e=>by cases e⟩
 | .take j C' T,n+1,C,listed,L,hC,jb,hM=>by
  refine ⟨fun h s hs=>?_,fun m l _ h=>by simp [kz] at h⟩
  unfold kz at h
  split at h
  ·rename_i x c hx hc
   obtain ⟨oj,hj,rfl⟩:=qj hx
   split at h
   ·cases h
   ·rename_i d hd
    simp only [mr,Bool.and_eq_true] at h
    obtain ⟨⟨⟨⟨⟨⟨⟨hN,zL⟩,RJ⟩,hcf⟩,hbit⟩,O9⟩,qi⟩,Lz,hT⟩:=h
    have hN:qJ oj.op=true:=hN
    have hd:oj.dst=some d:=hd
    have uE:j∈Region.ready .any ops listed:=pn hM hj (by simpa using hbit) O9 (n9 hP hj)
    have NP:∀ {d:Nat} {l:List Nat},(!je d l)=true→d∉l:=fun h hm=>by rw [eD.2 hm] at h; cases h
    have LA:d∉oj.looksAt ops:=NP zL
    have RQ:∀ k∈C,∀ ok,ops[k]?=some ok→d∉ok.looksAt ops∧ok.dst≠some d:=fun k hk ok eW=>by
     have:=List.all_eq_true.1 RJ k hk
     rw [gm eW] at this
     simp only [Bool.and_eq_true] at this
     refine ⟨NP this.1,fun e=>?_⟩
     have h2:=this.2
     simp only [jY,e,pJ] at h2
     cases h2
    have Hw:NC ops (j :: C):=fun k hk ok ho=>by
     rcases List.mem_cons.1 hk with rfl | hk
     ·rw [hj] at ho; cases ho; exact hN
     ·exact hC k hk ok ho
    have RR:=jb.add hA uE
    obtain ⟨ih,_⟩:=nA hA hP hF hK T n C' (listed.setIfInBounds j true) (L ||| 2 ^ j) (wR qi) RR (hM.add j)
    unfold qK at hs
    rw [aR,Array.getElem?_toList,hj] at hs
    simp only at hs
    have KU:bL E f ops.toList oj (fw E f ops cR (j :: C) K n (listed.setIfInBounds j true)) s:=bM hs fun s' h'=>mm n _ _ (sf (hM.add j) Lz) (ih hT s' h')
    obtain ⟨x,sy,hk⟩:=uu hN (gH Hw hK _ _) KU
    rw [hd] at hk
    refine BN hA hC hK hj hN hd LA RQ n listed s x jb (fun i oi hi cq FK q8=>?_) uE sy hk
    have tH:=uB hF j _ c (j3 hj) (by rw [← aR]; exact hc) hN
    have jS:=uA tH i _ (j3 hi)
    rw [Nat.zero_add,Nat.zero_add] at jS
    simp only [Bool.or_eq_true] at jS
    have Ly:i < ops.size:=(Array.getElem?_eq_some_iff.1 hi).1
    rcases jS with ((h1 | h1) | h1) | h1
    ·exact absurd (Nat.eq_of_beq_eq_true h1) cq
    ·obtain ⟨e,q1,q2,q3⟩:=ir.1 (eD.1 h1)
     exact absurd q3 (q8 e (by simpa using q1) q2)
    ·have:=List.all_eq_true.1 hcf i (eD.1 h1)
     rw [hM.zS Ly,this] at FK
     cases FK
    ·exact wQ h1
  ·cases h
 | .br i re C' T more,0,C,listed,L,hC,jb,hM=>⟨fun h=>by simp [kz] at h,fun m l e=>by cases e⟩
 | .br i re C' T more,n+1,C,listed,L,hC,jb,hM=>by
  have main:∀ left l,(match left with | none=>mq L 0 (jZ ops) | some l=>l)=l→kz (jZ ops) (2 ^ ops.size - 1) cR cf (.br i re C' T more) (n+1) C L left=true→∀ s,qK E f ops.toList (.br i re C' T more) K s→i∈l∧∀ k∈l,k∈Region.ready .any ops listed→∀ ok,ops[k]?=some ok →
    bL E f ops.toList ok (fun s'=>D6 E f ops cR C k s'∧fw E f ops cR C K n (listed.setIfInBounds k true) s') s:=by
   intro left l hl h s hs
   unfold kz at h
   split at h
   ·cases h
   ·rename_i y hy
    obtain ⟨oi,qh,rfl⟩:=qj hy
    have h:(JR (jZ ops) cR C re i (jY ops oi)&&CV (jZ ops) C'&&je i l&&(s5 (jZ ops) cR (L ||| 2 ^ i) C C'&&kz (jZ ops) (2 ^ ops.size - 1) cR cf T n C' (L ||| 2 ^ i) none) &&
     kz (jZ ops) (2 ^ ops.size - 1) cR cf more (n+1) C L (some (l.filter fun k=>!Nat.beq k i)))=true:=by
     cases left with
     | none=>simp only at hl; subst hl; simp only [uz,mr] at h; exact h
     | some l'=>simp only at hl; subst hl; simp only [mr] at h; exact h
    simp only [Bool.and_eq_true] at h
    obtain ⟨⟨⟨⟨OJ,qi⟩,fB⟩,Lz,hT⟩,hmore⟩:=h
    unfold qK at hs
    refine ⟨eD.1 fB,fun k hk QK ok eW=>?_⟩
    by_cases e:k=i
    ·subst e
     rw [qh] at eW
     cases eW
     obtain ⟨ih,_⟩:=nA hA hP hF hK T n C' (listed.setIfInBounds k true) (L ||| 2 ^ k) (wR qi) (jb.add hA QK) (hM.add k)
     have h1:=hs.1
     rw [aR,Array.getElem?_toList,qh] at h1
     refine bM h1 fun s' h'=>⟨fun c hc oc JQ q1 q2 q3 q4=>?_,mm n _ _ (sf (hM.add k) Lz) (ih hT s' h'.2)⟩
     rw [qh] at q2
     cases q2
     have AL:=List.all_eq_true.1 OJ c hc
     rw [gm q1] at AL
     have VA:n7 (jY ops oc) (jY ops oi)=true:=q3
     simp only [VA,Bool.not_true,Bool.false_or,Bool.or_eq_true] at AL
     rcases AL with AL | AL
     ·have hm:c∈re:=eD.1 AL
      have:∀ (re:List Nat),c∈re→wP E f ops.toList re s'→BH E f ops.toList oc s':=by
       intro re
       induction re with
       | nil=>intro hm; simp at hm
       | cons a re ihr=>
        intro hm ha
        rcases List.mem_cons.1 hm with rfl | hm
        ·have:=ha.1
         rw [aR,Array.getElem?_toList,q1] at this
         exact this
        ·exact ihr hm ha.2
      exact this re hm h'.1
     ·exact absurd (eD.1 AL) q4
    ·obtain ⟨_,ih⟩:=nA hA hP hF hK more (n+1) C listed L hC jb hM
     refine ih n _ rfl hmore s hs.2 k ?_ QK ok eW
     rw [List.mem_filter]
     exact ⟨hk,by rw [lV e]; rfl⟩
  refine ⟨fun h s hs=>?_,fun m l e h s hs k hk QK ok eW=>?_⟩
  ·obtain ⟨m1,m2⟩:=main none _ rfl h s hs
   have back:∀ k,k∈mq L 0 (jZ ops)→k∈Region.ready .any ops listed:=fun k hk=>by
    obtain ⟨j,x,q1,q2,q3,q4⟩:=nw.1 hk
    rw [Nat.zero_add] at q1
    subst q1
    rw [← aR] at q2
    obtain ⟨o,ho,rfl⟩:=qj q2
    exact pn hM ho q3 q4 (n9 hP ho)
   have Pa:∀ k,k∈Region.ready .any ops listed→k∈mq L 0 (jZ ops):=fun k hk=>by
    obtain ⟨h1,o,ho,qi⟩:=mem_ready.1 hk
    have bK:k < ops.size:=(Array.getElem?_eq_some_iff.1 ho).1
    refine nw.2 ⟨k,jY ops o,by omega,j3 ho,by rw [← hM.zS bK]; exact h1,List.all_eq_true.2 fun e he=>?_⟩
    obtain ⟨ed,q1,q2,rfl⟩:=ir.1 he
    have h2:=qi ed (by simpa using q1) q2
    rw [hM.zS (n9 hP ho ed (by simpa using q1) q2)] at h2
    exact h2
   refine ⟨fun h0=>?_,fun k hk ok eW=>m2 k (Pa k hk) hk ok eW⟩
   have:=back i m1
   rw [h0] at this
   simp at this
  ·cases e
   exact (main (some l) l rfl h s hs).2 k hk QK ok eW
theorem uF {R:aj} {w:World} {β:Nat→Nat} {F:Fence} {Qc:Exit→Act→World→Prop} {C:List Nat} (hQ:∀ a' w',nq E R w β s K a' w'→Qc .normal a' w') :
  ∀ (n:Nat) (listed:Array Bool) (R1:aj) (w1:World) (β1:Nat→Nat) (s1:St) (a1:Act),aV E R1 w1 β1 s1 a1→Step R w β s.boxes R1 w1 β1 s1.boxes→s1.ro=s.ro→bo R1 s1.ro F →
   fw E f ops cR C K n listed s1→wpAnyIn F 0 E.P .any ops Qc n listed a1 w1
 | 0,listed,R1,w1,β1,s1,a1,hr,jE,bA,_,ha=>⟨ha.1,hQ _ _ ⟨s1,R1,β1,ha.2,hr,jE,bA⟩⟩
 | n+1,listed,R1,w1,β1,s1,a1,hr,jE,bA,hf,ha=>by
  refine ⟨fun h0=>hQ _ _ ⟨s1,R1,β1,ha.1 h0,hr,jE,bA⟩,fun i hi=>?_⟩
  obtain ⟨_,o,ho,_⟩:=mem_ready.1 hi
  unfold wpOpIn
  simp only [ho]
  refine qc hr hf (ha.2 i hi o ho) _ ?_
  rintro a' w' ⟨s',R',β',q1,q2,q3,q4⟩
  exact uF hQ n _ R' w' β' s' a' q2 (jE.trans q3) (q4.trans bA) (by rw [q4]; exact hf.mono q3.ext) q1.2
theorem fc {K':St→Prop} (hK:∀ s,K s→K' s):∀ (T:DT) (s:St),qK E f ops.toList T K s→qK E f ops.toList T K' s
 | .done,s,h=>hK s h
 | .stop,_,_=>trivial
 | .take j C T,s,h=>by
  unfold qK at h ⊢
  split
  ·rename_i oj hj
   rw [hj] at h
   exact bM h fun s' h'=>fc hK T s' h'
  ·rename_i hj
   rw [hj] at h
   exact h
 | .al j W T,s,h=>by
  unfold qK at h ⊢
  split
  ·rename_i oj hj
   rw [hj] at h
   exact ⟨h.1,bM h.2 fun s' h'=>fc hK T s' h'⟩
  ·rename_i hj
   rw [hj] at h
   exact h
 | .br i re C T more,s,h=>by
  unfold qK at h ⊢
  refine ⟨?_,fc hK more s h.2⟩
  have h:=h.1
  split
  ·rename_i oj hj
   rw [hj] at h
   exact bM h fun s' h'=>⟨h'.1,fc hK T s' h'.2⟩
  ·rename_i hj
   rw [hj] at h
   exact h
structure aD where
 cR:List (List Nat)
 cf:List (List Nat)
 T:DT
def BQ (ops:Array Oper) (p:aD):Bool:=CT (ops.toList.map (jY ops)) fun I=>
 xW ops.size fun n=>xW (2 ^ n - 1) fun N=>uy (FN p.cR) 0 I&&Lx n I&&zP I 0 I p.cf&&kz I N (FN p.cR) p.cf p.T n [] 0 none
theorem aV.drawn {R:aj} {w:World} {β:Nat→Nat} {a:Act} (h:aV E R w β s a):aV E R { w with drawn:=w.drawn+1 } β s a∧Step R w β s.boxes R { w with drawn:=w.drawn+1 } β s.boxes:=by
 have e:Ext R w R { w with drawn:=w.drawn+1 }:=⟨fun _ _ h=>h,fun _ _ _=>rfl,fun _ ro h=>⟨ro,h,bZ.refl ro⟩,fY.refl w⟩
 refine ⟨⟨⟨h.g.len,fun id go ro h1 h2=>(h.g.obj id go ro h1 h2).mono e (fun _ _=>rfl) (fun _ _ _ h=>h),h.g.inj,h.g.wf,fun g cs hg=>(h.g.dD g cs hg).mono e,Nat.le_succ_of_le h.g.lo⟩,?_,h.t.mono e,h.n,h.d⟩,?_⟩
 ·exact h.b.aW e (fun _ _ _=>rfl) (fun _ _ _ _ h=>h) (fun _ _ _ h=>h)
 ·exact ⟨e,rfl,rfl,rfl,Nat.le_refl _,fun _ _ _=>rfl,fun _ _ h=>h,fun _ _ h _ _=>h⟩
theorem eS.draw {id:Nat} {p:aD} {Q:Exit→St→Prop} (eW:BQ ops p=true) (h:qK E f ops.toList p.T (Q .normal) s):eS E (.region id ops true) Q s:=fun R w β a F hr hf=>by
 simp only [BQ,zQ,mr,Bool.and_eq_true] at eW
 obtain ⟨⟨⟨hA,hP⟩,hF⟩,hT⟩:=eW
 refine wpIn_region_any E.mixed ?_
 obtain ⟨q1,q2⟩:=hr.drawn
 have hK:Inv (fun s=>∃ u,nZ u s∧Q .normal u):=fun s t e ⟨u,h1,h2⟩=>⟨u,h1.trans e,h2⟩
 have h':=fc (K':=fun s=>∃ u,nZ u s∧Q .normal u) (fun s h=>⟨s,nZ.refl s,h⟩) p.T s h
 have jb:mn (FN p.cR) (Array.replicate ops.size false):=fun i hi=>by
  rw [Array.getD_eq_getD_getElem?,Array.getElem?_replicate] at hi
  split at hi <;> cases hi
 have LB:=(nA (E:=E) (f:=f) (BP hA) hP hF hK p.T ops.size [] (Array.replicate ops.size false) 0 (fun k hk=>by simp at hk) jb ⟨by simp,fun i hi=>by simp [hi]⟩).1 hT s h'
 refine uF (R:=R) (w:=w) (β:=β) (s:=s) (f:=f) (K:=fun s=>∃ u,nZ u s∧Q .normal u) ?_ _ _ R _ β s a q1 q2 rfl hf LB
 rintro a' w' ⟨s',R',β',⟨u,e,hu⟩,h2,h3,h4⟩
 exact ⟨u,R',β',hu,h2.eqv e.symm,h3.eqv rfl e.symm.b,e.ro.trans h4⟩
end
end Go.Am
