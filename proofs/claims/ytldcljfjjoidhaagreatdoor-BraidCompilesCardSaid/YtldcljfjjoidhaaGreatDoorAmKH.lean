/- The abstract machine: regions whose order the tape draws,along a tree of choices that was checked. -/
import Derived.Test.YtldcljfjjoidhaaGreatDoorAmKG
set_option linter.all false
namespace Go.Am
open Go
section
variable {E:Env} {s t:St} {f:FuncId} {ops:Array Oper} {o oj oi:Oper} {d:Tmp} {x:SV} {K K':St→Prop} {dH:Nat→List Nat} {C:List Nat}
def IK (E:Env) (f:FuncId) (ops:Array Oper) (dH:Nat→List Nat) (C:List Nat) (i:Nat) (s:St):Prop:=
 ∀ j∈C,∀ oj oi,ops[j]?=some oj→ops[i]?=some oi→jZ oj oi=true→j∉dH i→FJ E f ops.toList oj s
def NC (ops:Array Oper) (C:List Nat):Prop:=∀ j∈C,∀ oj,ops[j]?=some oj→tQ oj.op=true
theorem qq {i:Nat} (hC:NC ops C):Inv (IK E f ops dH C i):=fun _ _ e h j hj oj oi h1 h2 h3 h4=>ON (hC j hj oj h1) e (h j hj oj oi h1 h2 h3 h4)
def gi (E:Env) (f:FuncId) (ops:Array Oper) (dH:Nat→List Nat) (C:List Nat) (K:St→Prop):Nat→Array Bool→St→Prop
 | 0,listed,s=>Region.ready .any ops listed=[]∧K s
 | n+1,listed,s=>(Region.ready .any ops listed=[]→K s) ∧
   ∀ i∈Region.ready .any ops listed,∀ oi,ops[i]?=some oi→cp E f ops.toList oi (fun s'=>IK E f ops dH C i s'∧gi E f ops dH C K n (listed.setIfInBounds i true) s') s
theorem iT (hC:NC ops C) (hK:Inv K):∀ n listed,Inv (gi E f ops dH C K n listed)
 | 0,_=>fun s t e h=>⟨h.1,hK s t e h.2⟩
 | n+1,_=>fun s t e h=>⟨fun h0=>hK s t e (h.1 h0),fun i hi oi s8=>Dj (fun s t e h=>⟨qq hC s t e h.1,iT hC hK n _ s t e h.2⟩) s t e (h.2 i hi oi s8)⟩
theorem n3 {C':List Nat}:∀ n (listed:Array Bool) (s:St),
  (∀ k∈C',k∈C∨∀ i ok oi,ops[k]?=some ok→ops[i]?=some oi→listed.getD i true=false→jZ ok oi=true→k∈dH i) →
  gi E f ops dH C K n listed s→gi E f ops dH C' K n listed s
 | 0,_,_,_,h=>h
 | n+1,listed,s,hk,h=>⟨h.1,fun i hi oi s8=>cq (h.2 i hi oi s8) fun s' h'=>⟨fun k UO ok Ti h1 h2 h3 h4=>by
   rcases hk k UO with h5 | h5
   ·exact h'.1 k h5 ok Ti h1 h2 h3 h4
   ·exact absurd (h5 i ok Ti h1 h2 (mem_ready.1 hi).1 h3) h4,n3 n _ s' (fun k UO=>by
   rcases hk k UO with h5 | h5
   ·exact .inl h5
   ·refine .inr fun i' ok Ti h1 h2 h3 h4=>h5 i' ok Ti h1 h2 ?_ h4
    by_cases e:i=i'
    ·subst e; exact (mem_ready.1 hi).1
    ·rw [getD_set_ne true e] at h3; exact h3) h'.2⟩⟩
def AY (ops:Array Oper) (dH:Nat→List Nat):Prop:=∀ i oi a,ops[i]?=some oi→a∈dH i→∃ e∈oi.after,Region.binds .any e=true∧(e.on=a∨a∈dH e.on)
def n5 (dH:Nat→List Nat) (listed:Array Bool):Prop:=∀ i,listed.getD i false=true→∀ a∈dH i,listed.getD a false=true
theorem n5.ready {listed:Array Bool} (h:n5 dH listed) (ha:AY ops dH) {i:Nat} (hi:i∈Region.ready .any ops listed):∀ a∈dH i,listed.getD a false=true:=fun a haa=>by
 obtain ⟨_,o,ho,oP⟩:=mem_ready.1 hi
 obtain ⟨e,he,hb,h2⟩:=ha i o a ho haa
 rcases h2 with rfl | h2
 ·exact oP e he hb
 ·exact h _ (oP e he hb) a h2
theorem kr {listed:Array Bool} {i:Nat} (h:listed.getD i false=true):listed.getD i true=true:=by
 rw [Array.getD_eq_getD_getElem?] at *
 cases hl:listed[i]? with
 | none=>rw [hl] at h; cases h
 | some b=>rw [hl] at h; exact h
theorem n5.add {listed:Array Bool} (h:n5 dH listed) (ha:AY ops dH) {i:Nat} (hi:i∈Region.ready .any ops listed):n5 dH (listed.setIfInBounds i true):=fun k hk a haa=>by
 by_cases e:i=k
 ·subst e
  exact getD_set_true (h.ready ha hi a haa)
 ·rw [getD_set_ne false e] at hk
  exact getD_set_true (h k hk a haa)
theorem FP (hA:AY ops dH) (hC:NC ops C) (hK:Inv K) {j:Nat} (hj:ops[j]?=some oj) (hN:tQ oj.op=true) (Ha:oj.dst=some d) (Dl:d∉oj.looksAt ops)
  (hCd:∀ k∈C,∀ ok,ops[k]?=some ok→d∉ok.looksAt ops∧ok.dst≠some d):∀ n (listed:Array Bool) (s:St) (x:SV),n5 dH listed →
   (∀ i oi,ops[i]?=some oi→i≠j→listed.getD i true=false→(∀ e∈oi.after,Region.binds .any e=true→e.on≠j)→oj.apart ops oi=true) →
   j∈Region.ready .any ops listed→yg E f ops oj s x→gi E f ops dH (j :: C) K n (listed.setIfInBounds j true) (s.put (some d) x)→gi E f ops dH C K (n+1) listed s:=by
 have Oe:NC ops (j :: C):=fun k hk ok ho=>by
  rcases List.mem_cons.1 hk with rfl | hk
  ·rw [hj] at ho; cases ho; exact hN
  ·exact hC k hk ok ho
 have self:∀ n (listed:Array Bool) (s:St) (x:SV),yg E f ops oj s x→gi E f ops dH (j :: C) K n (listed.setIfInBounds j true) (s.put (some d) x)→∀ oi,ops[j]?=some oi →
   cp E f ops.toList oi (fun s'=>IK E f ops dH C j s'∧gi E f ops dH C K n (listed.setIfInBounds j true) s') s:=fun n listed s x hx h oi s8=>by
  rw [hj] at s8
  cases s8
  refine yi hN (fun s t e h=>⟨qq hC s t e h.1,iT hC hK _ _ s t e h.2⟩) hx ?_
  rw [Ha]
  refine ⟨fun k _ ok Ti _ h2 h3 _=>?_,n3 n _ _ (fun k hk=>.inl (List.mem_cons_of_mem _ hk)) h⟩
  rw [hj] at h2
  cases h2
  simp [jZ,Dh hN,hN] at h3
 intro n
 induction n with
 | zero=>
  intro listed s x _ _ hr hx h
  refine ⟨fun h0=>by rw [h0] at hr; simp at hr,fun i hi oi s8=>?_⟩
  by_cases e:i=j
  ·subst e; exact self 0 listed s x hx h oi s8
  ·have:=ready_mono hi e
   rw [h.1] at this
   simp at this
 | succ n ih=>
  intro listed s x jF jX hr hx h
  refine ⟨fun h0=>by rw [h0] at hr; simp at hr,fun i hi oi s8=>?_⟩
  by_cases e:i=j
  ·subst e; exact self (n+1) listed s x hx h oi s8
  ·have KG:=(mem_ready.1 hi).1
   have OR:=(mem_ready.1 hr).1
   have Um:∀ ed∈oi.after,Region.binds .any ed=true→ed.on≠j:=fun ed he hb kR=>by
    obtain ⟨_,o,ho,oP⟩:=mem_ready.1 hi
    rw [s8] at ho
    cases ho
    have h1:=kr (oP ed he hb)
    rw [kR,OR] at h1
    cases h1
   have X8:=jX i oi s8 e KG Um
   have hG:=h.2 i (ready_mono hi e) oi s8
   have KH:j∉dH i:=fun hm=>by
    have h1:=kr (jF.ready hA hi j hm)
    rw [OR] at h1
    cases h1
   have hKi:Inv (fun s'=>IK E f ops dH (j :: C) i s'∧gi E f ops dH (j :: C) K n ((listed.setIfInBounds j true).setIfInBounds i true) s'):=
    fun s t e h=>⟨qq Oe s t e h.1,iT Oe hK _ _ s t e h.2⟩
   have UP:∀ k ok,ops[k]?=some ok→k≠j→(listed.setIfInBounds i true).getD k true=false→(∀ e∈ok.after,Region.binds .any e=true→e.on≠j)→oj.apart ops ok=true:=fun k ok hk hkj Zk ul=>by
    refine jX k ok hk hkj ?_ ul
    by_cases e':i=k
    ·subst e'; exact KG
    ·rw [getD_set_ne true e'] at Zk; exact Zk
   have core:∀ {pre:bj} {preB:cP} {G:List GO},X6 (bZ oi.op) oi.dst pre→(tQ oi.op=true→preB=[]∧G=s.G) →
     (IK E f ops dH (j :: C) i ((s.put (some d) x).fV pre preB G)∧gi E f ops dH (j :: C) K n ((listed.setIfInBounds j true).setIfInBounds i true) ((s.put (some d) x).fV pre preB G)) →
     IK E f ops dH C i (s.fV pre preB G)∧gi E f ops dH C K (n+1) (listed.setIfInBounds i true) (s.fV pre preB G):=by
    intro pre preB G Ad Zj hk
    obtain ⟨x',uc,jg⟩:=IE hN Ha Dl X8 hKi hx Ad Zj hk (fun t' FQ hd=>FQ.1 j (List.mem_cons_self ..) oj oi hj s8 hd KH)
    refine ⟨fun k UO ok Ti h1 h2 h3 h4=>?_,?_⟩
    ·obtain ⟨q1,q2⟩:=hCd k UO ok h1
     obtain ⟨b1,b2,b3,_⟩:=gH (s.fV pre preB G) (some d) x'
     exact OM (hC k UO ok h1) q1 q2 (fun e he=>wL _ _ _ he) (by rw [b1]) b2 b3 (jg.1 k (List.mem_cons_of_mem _ UO) ok Ti h1 h2 h3 h4)
    ·refine ih (listed.setIfInBounds i true) _ x' (jF.add hA hi) UP (ready_mono hr (Ne.symm e)) uc ?_
     rw [Array.setIfInBounds_comm _ _ e]
     exact jg.2
   rw [gG (fun s t e h=>⟨qq hC s t e h.1,iT hC hK _ _ s t e h.2⟩)]
   obtain ⟨OE,_,_⟩:=Oper.apart_spec X8
   have vo:∀ e∈oi.looksAt ops,lk (s.put (some d) x).ae e=lk s.ae e:=fun e he=>wL s d x fun k=>OE d Ha (k ▸ he)
   obtain ⟨b1,b2,b3,b4,b5⟩:=gH s (some d) x
   rcases (gG hKi).1 hG with ⟨h1,h2⟩ | ⟨h1,h2⟩
   ·refine .inl ⟨by rw [← kT vo]; exact h1,uv b3 b2 (by rw [b1]) (lj vo) h2 fun pre preB G hp Zj hk=>core hp (fun hh=>?_) hk⟩
    obtain ⟨q1,q2⟩:=Zj hh
    exact ⟨q1,by rw [q2,b2]⟩
   ·refine .inr ⟨by rw [← kT vo]; exact h1,?_⟩
    obtain ⟨pre,preB,G,p1,p2,p3,p4⟩:=bT.put (s:=s.put (some d) x) (t:=s) (al:=bZ oi.op) (w:=false) b3 b2 oi.dst (.v gw)
    obtain ⟨q1,q2,_⟩:=p2 rfl
    rw [p3] at h2
    rw [p4]
    exact core p1 (fun _=>⟨q1,by rw [q2,b2]⟩) h2
theorem Hd {i:Nat} {s:St}:IK E f ops dH [] i s:=fun j hj=>by cases hj
theorem UQ {y:Operand} {k off:Nat} (h:bM E s.ae y=.lp k off):∃ e,y=.tmp e∧lk s.ae e=.lp k off:=by
 cases y with
 | tmp e=>exact ⟨e,rfl,h⟩
 | const v=>simp only [bM] at h; split at h <;> cases h
 | global g=>simp only [bM] at h; split at h <;> cases h
 | func g=>cases h
theorem KI (hA:AY ops dH) (hK:Inv K) {j:Nat} (hj:ops[j]?=some oj) (hg:oj.guard=none) (Ha:oj.dst=some d) (Ae:bZ oj.op=true) (UR:E.zU f d=false):∀ n (listed:Array Bool) (s s1:St),n5 dH listed →
  (∀ i oi,ops[i]?=some oi→i≠j→listed.getD i true=false→j∉dH i→oj.apart ops oi=true∧∀ e∈oi.looksAt ops,∀ off,lk s.ae e≠.lp d off) →
  j∈Region.ready .any ops listed→ap E f s oj=some (true,s1)→gi E f ops dH [] K n (listed.setIfInBounds j true) s1→gi E f ops dH [] K (n+1) listed s:=by
 have Oe:NC ops []:=fun k hk=>by cases hk
 have self:∀ n (listed:Array Bool) (s s1:St),ap E f s oj=some (true,s1)→gi E f ops dH [] K n (listed.setIfInBounds j true) s1→∀ oi,ops[j]?=some oi →
   cp E f ops.toList oi (fun s'=>IK E f ops dH [] j s'∧gi E f ops dH [] K n (listed.setIfInBounds j true) s') s:=fun n listed s s1 hx h oi s8=>by
  rw [hj] at s8
  cases s8
  unfold cp
  rw [hg]
  exact (Hc Ae).2 ⟨s1,hx,Hd,h⟩
 intro n
 induction n with
 | zero=>
  intro listed s s1 _ _ hr hx h
  refine ⟨fun h0=>by rw [h0] at hr; simp at hr,fun i hi oi s8=>?_⟩
  by_cases e:i=j
  ·subst e; exact self 0 listed s s1 hx h oi s8
  ·have:=ready_mono hi e
   rw [h.1] at this
   simp at this
 | succ n ih=>
  intro listed s s1 jF jX hr hx h
  refine ⟨fun h0=>by rw [h0] at hr; simp at hr,fun i hi oi s8=>?_⟩
  by_cases e:i=j
  ·subst e; exact self (n+1) listed s s1 hx h oi s8
  ·have KG:=(mem_ready.1 hi).1
   have OR:=(mem_ready.1 hr).1
   have KH:j∉dH i:=fun hm=>by
    have h1:=kr (jF.ready hA hi j hm)
    rw [OR] at h1
    cases h1
   obtain ⟨X8,ul⟩:=jX i oi s8 e KG KH
   obtain ⟨OE,cD,CW⟩:=Oper.apart_spec X8
   have KF:oi.dst≠some d:=cD d Ha
   obtain ⟨_,cs,rfl,GY⟩:=FN Ae Ha UR hx
   have hG:=h.2 i (ready_mono hi e) oi s8
   have hKi:Inv (fun s'=>IK E f ops dH [] i s'∧gi E f ops dH [] K n ((listed.setIfInBounds j true).setIfInBounds i true) s'):=
    fun s t e h=>⟨qq Oe s t e h.1,iT Oe hK _ _ s t e h.2⟩
   have IJ:∀ y∈oi.op.operands,∀ off,bM E s.ae y≠.lp d off:=fun y hy off hv=>by
    obtain ⟨e',rfl,hv⟩:=UQ hv
    exact ul e' (nZ hy) off hv
   have core:∀ {pre:bj} {preB:cP} {G:List GO},jj E s oi (s.fV pre preB G) →
     (IK E f ops dH [] i ((rW s d cs).fV pre preB G)∧gi E f ops dH [] K n ((listed.setIfInBounds j true).setIfInBounds i true) ((rW s d cs).fV pre preB G)) →
     IK E f ops dH [] i (s.fV pre preB G)∧gi E f ops dH [] K (n+1) (listed.setIfInBounds i true) (s.fV pre preB G):=by
    intro pre preB G OQ hk
    refine ⟨Hd,?_⟩
    obtain ⟨o1,o2⟩:=Hb OQ
    have vo:∀ e' off,oi.dst≠some e'∨lk (s.fV pre preB G).ae e'=.lp d off→lk (s.fV pre preB G).ae e'=.lp d off→lk s.ae e'=.lp d off:=by
     intro e' off _ hv
     have hv:lk (pre++s.ae) e'=.lp d off:=hv
     rcases o1 with rfl | ⟨d',x,GK,hp,Zl⟩
     ·exact hv
     ·have uc:∀ off,x≠.lp d off:=fun off c=>by
       rcases Zl d off c with ⟨y,hy,gy,ho⟩ | ⟨_,h⟩
       ·exact IJ y hy gy ho
       ·exact KF (by rw [GK,h])
      by_cases c2:d'=e'
      ·subst c2
       rcases hp with rfl | rfl
       ·simp only [List.cons_append,List.nil_append,aG] at hv; exact absurd hv (uc off)
       ·simp only [List.cons_append,List.nil_append,aG] at hv; exact absurd hv (uc off)
      ·rcases hp with rfl | rfl
       ·simp only [List.cons_append,List.nil_append] at hv; rwa [aW c2] at hv
       ·simp only [List.cons_append,List.nil_append] at hv
        rw [aW c2,j5] at hv
        cases hl:lk s.ae e' with
        | lp k gy=>
         rw [hl] at hv
         simp only at hv
         cases hb:Nat.beq k d' with
         | true=>rw [hb] at hv; cases hv
         | false=>rw [hb] at hv; exact hv
        | v a=>rw [hl] at hv; cases hv
        | none=>rw [hl] at hv; cases hv
    refine ih (listed.setIfInBounds i true) _ _ (jF.add hA hi) ?_ (ready_mono hr (Ne.symm e)) (GY (s.fV pre preB G) rfl ?_) ?_
    ·intro k ok jg hkj Zk ac4
     have ac5:listed.getD k true=false:=by
      by_cases e':i=k
      ·subst e'; exact KG
      ·rw [getD_set_ne true e'] at Zk; exact Zk
     obtain ⟨q1,q2⟩:=jX k ok jg hkj ac5 ac4
     exact ⟨q1,fun e' he' off hv=>q2 e' he' off (vo e' off (.inr hv) hv)⟩
    ·intro y hy v hv
     cases y with
     | tmp e'=>
      have GK:oi.dst≠some e':=fun c=>CW e' c (nZ hy)
      have hv:lk s.ae e'=.v v:=hv
      show lk (pre++s.ae) e'=.v v
      rcases o1 with rfl | ⟨d',x,Zc,hp,_⟩
      ·exact hv
      ·have c2:d'≠e':=fun c=>GK (by rw [Zc,c])
       rcases hp with rfl | rfl
       ·simp only [List.cons_append,List.nil_append]; rw [aW c2]; exact hv
       ·simp only [List.cons_append,List.nil_append]
        rw [aW c2,yk (fun off=>by rw [hv]; intro c; cases c)]; exact hv
     | const _=>exact hv
     | global _=>exact hv
     | func _=>exact hv
    ·rw [Array.setIfInBounds_comm _ _ e]
     exact iT Oe hK _ _ _ _ (II cs OQ KF IJ) hk.2
   have BV:∀ e'∈oi.looksAt ops,lk (rW s d cs).ae e'=lk s.ae e':=fun e' he'=>by
    have c1:d≠e':=fun c=>OE d Ha (c ▸ he')
    show lk (.put d (.lp d 0) :: .kill d :: s.ae) e'=_
    rw [aW c1,yk (ul e' he')]
   have Ff:∀ k off,(∃ y∈oi.op.operands,bM E (rW s d cs).ae y=.lp k off)→dO (rW s d cs).boxes k=dO s.boxes k:=by
    rintro k off ⟨y,hy,hv⟩
    rw [lj BV y hy] at hv
    have N4:d≠k:=fun c=>IJ y hy off (by rw [c]; exact hv)
    show dO ((d,cs) :: s.boxes) k=dO s.boxes k
    simp only [dO]
    cases hb:Nat.beq d k with
    | true=>exact absurd (Nat.eq_of_beq_eq_true hb) N4
    | false=>rfl
   rw [gG (fun s t e h=>⟨qq Oe s t e h.1,iT Oe hK _ _ s t e h.2⟩)]
   rcases (gG hKi).1 hG with ⟨h1,h2⟩ | ⟨h1,h2⟩
   ·exact .inl ⟨by rw [← kT BV]; exact h1,FO (s:=rW s d cs) (t:=s) rfl rfl Ff (lj BV) h2 fun pre preB G hO hk=>core hO hk⟩
   ·refine .inr ⟨by rw [← kT BV]; exact h1,?_⟩
    obtain ⟨pre,preB,G,p1,p2,p3,p4⟩:=bT.put (s:=rW s d cs) (t:=s) (al:=bZ oi.op) (w:=false) rfl rfl oi.dst (.v gw)
    rw [p3] at h2
    have hO:jj E s oi (s.put oi.dst (.v gw)):=lm rfl rfl _
    rw [p4] at hO ⊢
    exact core hO h2
end
inductive DT where
 | done
 | take (j:Nat) (C:List Nat) (t:DT)
 | br (i:Nat) (re C:List Nat) (t:DT) (more:DT)
 | stop
 | al (j:Nat) (W:List Nat) (t:DT)
structure n9 where
 dst:Option Tmp
 lo:List Tmp
 pr:List Nat
 n:Bool
 r:Bool
 a:Bool
def He (d:Nat) (s:bj):List Nat→Bool
 | []=>true
 | e :: l=>(match lk s e with
  | .lp k _=>!Nat.beq k d
  | _=>true)&&He d s l
def US (E:Env) (f:FuncId) (o:Oper) (W:List Nat) (s:St):Bool:=match o.guard,o.dst with
 | none,some d=>!E.zU f d&&He d s.ae W
 | _,_=>false
def ks (x:Nat):List Nat→Bool
 | []=>false
 | y :: l=>Nat.beq x y || ks x l
def qt:List Edge→List Nat
 | []=>[]
 | e :: l=>bif Region.binds .any e then e.on :: qt l else qt l
def ln (ops:Array Oper) (o:Oper):n9:=⟨o.dst,o.looksAt ops,qt o.after.toList,tQ o.op,UN o.op,bZ o.op⟩
def BW {α:Type} (n:Nat) (K:Nat→α):α:=match n with
 | 0=>K 0
 | m+1=>K (Nat.succ m)
def AZ {α:Type}:List Nat→(List Nat→α)→α
 | [],K=>K []
 | a :: l,K=>BW a fun a=>AZ l fun l=>K (a :: l)
def UT {α:Type} (i:n9) (K:n9→α):α:=match i with
 | ⟨d,lo,pr,n,r,a⟩=>AZ lo fun lo=>AZ pr fun pr=>(match d with
  | none=>(fun (K:Option Tmp→α)=>K none)
  | some d=>(fun (K:Option Tmp→α)=>BW d fun d=>K (some d))) fun d=>(bif n then (fun (K:Bool→α)=>K true) else fun K=>K false) fun n=>
   (bif r then (fun (K:Bool→α)=>K true) else fun K=>K false) fun r=>(bif a then (fun (K:Bool→α)=>K true) else fun K=>K false) fun a=>K ⟨d,lo,pr,n,r,a⟩
def Hf {α:Type}:List n9→(List n9→α)→α
 | [],K=>K []
 | i :: l,K=>UT i fun i=>Hf l fun l=>K (i :: l)
def ux (x y:n9):Bool:=
 (match x.dst with
 | some d=>!ks d y.lo&&(match y.dst with | some e=>!Nat.beq e d | none=>true)
 | none=>true) &&
 (match y.dst with
 | some d=>!ks d x.lo
 | none=>true)
def Dn (j:Nat) (x:n9) (cf:List Nat):Nat→List n9→Bool
 | _,[]=>true
 | i,y :: l=>(Nat.beq i j || ks j y.pr || ks i cf || ux x y)&&Dn j x cf (i+1) l
def Dp (I:List n9):Nat→List n9→List (List Nat)→Bool
 | _,[],_=>true
 | j,x :: l,c :: cs=>(!x.n || Dn j x c 0 I)&&Dp I (j+1) l cs
 | _,_,_=>false
def yl (dH:Nat→List Nat):Nat→List n9→Bool
 | _,[]=>true
 | i,x :: l=>(dH i).all (fun a=>x.pr.any fun e=>Nat.beq e a || ks a (dH e))&&yl dH (i+1) l
def oa (L:Nat):Nat→List n9→List Nat
 | _,[]=>[]
 | i,x :: l=>bif !L.testBit i&&x.pr.all (fun e=>L.testBit e) then i :: oa L (i+1) l else oa L (i+1) l
def qu (x y:n9):Bool:=y.a || (x.r&&!y.n)
def qv (dH:Nat→List Nat) (L k:Nat) (x:n9):Nat→List n9→Bool
 | _,[]=>true
 | i,y :: l=>(L.testBit i || !qu x y || ks k (dH i))&&qv dH L k x (i+1) l
def wM (I:List n9) (dH:Nat→List Nat) (L:Nat) (C C':List Nat):Bool:=C.all fun k=>ks k C' || match nth I k with
 | none=>false
 | some x=>qv dH L k x 0 I
def Tj (I:List n9) (dH:Nat→List Nat) (C re:List Nat) (i:Nat) (y:n9):Bool:=C.all fun k=>ks k re || match nth I k with
 | none=>false
 | some x=>!qu x y || ks k (dH i)
def Hg (dH:Nat→List Nat) (L:Nat) (W:List Nat) (j:Nat) (x:n9):Nat→List n9→Bool
 | _,[]=>true
 | i,y :: l=>(Nat.beq i j || L.testBit i || ks j (dH i) || (ux x y&&y.lo.all fun e=>ks e W))&&Hg dH L W j x (i+1) l
def Hh (I:List n9) (C:List Nat):Bool:=C.all fun k=>match nth I k with
 | some x=>x.n
 | none=>false
def lU (I:List n9) (N:Nat) (dH:Nat→List Nat) (cf:List (List Nat)):DT→Nat→List Nat→Nat→Option (List Nat)→Bool
 | .done,_,_,L,none=>Nat.beq L N
 | .take j C' t,n+1,C,L,none=>match nth I j,nth cf j with
  | some x,some c=>match x.dst with
   | none=>false
   | some d=>x.n&&!ks d x.lo&&(C.all fun k=>match nth I k with
     | none=>false
     | some y=>!ks d y.lo&&(match y.dst with | some e=>!Nat.beq e d | none=>true)) &&
    c.all (fun i=>L.testBit i)&&!L.testBit j&&x.pr.all (fun e=>L.testBit e)&&Hh I C' &&
    BW (L ||| 2 ^ j) fun L'=>wM I dH L' (j :: C) C'&&lU I N dH cf t n C' L' none
  | _,_=>false
 | .br i re C' t more,n+1,C,L,left=>match nth I i with
  | none=>false
  | some y=>(match left with
   | none=>fun (K:List Nat→Bool)=>AZ (oa L 0 I) K
   | some l=>fun K=>K l) fun l=>
    Tj I dH C re i y&&Hh I C'&&ks i l&&(BW (L ||| 2 ^ i) fun L'=>wM I dH L' C C'&&lU I N dH cf t n C' L' none) &&
     lU I N dH cf more (n+1) C L (some (l.filter fun k=>!Nat.beq k i))
 | .stop,_,_,_,some l=>l.isEmpty
 | .al j W t,n+1,C,L,none=>match nth I j with
  | some x=>match x.dst with
   | none=>false
   | some _=>C.isEmpty&&x.a&&!L.testBit j&&x.pr.all (fun e=>L.testBit e)&&Hg dH L W j x 0 I&&BW (L ||| 2 ^ j) fun L'=>lU I N dH cf t n [] L' none
  | none=>false
 | _,_,_,_,_=>false
def A0 (E:Env) (f:FuncId) (ops:List Oper):List Nat→St→Prop
 | [],_=>True
 | k :: l,s=>(match nth ops k with
  | some ok=>FJ E f ops ok s
  | none=>True)∧A0 E f ops l s
def tR (E:Env) (f:FuncId) (ops:List Oper):DT→(St→Prop)→St→Prop
 | .done,K,s=>K s
 | .take j _ t,K,s=>match nth ops j with
  | some oj=>cp E f ops oj (tR E f ops t K) s
  | none=>False
 | .br i re _ t more,K,s=>(match nth ops i with
  | some oi=>cp E f ops oi (fun s'=>A0 E f ops re s'∧tR E f ops t K s') s
  | none=>False)∧tR E f ops more K s
 | .stop,_,_=>True
 | .al j W t,K,s=>match nth ops j with
  | some oj=>US E f oj W s=true∧cp E f ops oj (tR E f ops t K) s
  | none=>False
def KJ (l:List (List Nat)) (i:Nat):List Nat:=match nth l i with
 | some a=>a
 | none=>[]
section
variable {E:Env} {s t:St} {f:FuncId} {ops:Array Oper} {K:St→Prop} {dH:Nat→List Nat}
theorem fF {x:Nat}:∀ {l:List Nat},ks x l=true↔x∈l
 | []=>by simp [ks]
 | y :: l=>by simp [ks,fF (l:=l)]
theorem od {α:Type} (n:Nat) (K:Nat→α):BW n K=K n:=by cases n <;> rfl
theorem ym {α:Type}:∀ (l:List Nat) (K:List Nat→α),AZ l K=K l
 | [],_=>rfl
 | a :: l,K=>by simp only [AZ,od]; rw [ym]
theorem OS {α:Type} (i:n9) (K:n9→α):UT i K=K i:=by
 obtain ⟨d,lo,pr,n,r,a⟩:=i
 cases d <;> cases n <;> cases r <;> cases a <;> simp [UT,ym,od]
theorem Dq {α:Type}:∀ (l:List n9) (K:List n9→α),Hf l K=K l
 | [],_=>rfl
 | a :: l,K=>by simp only [Hf,OS]; rw [Dq]
def lq (ops:Array Oper):List n9:=ops.toList.map (ln ops)
theorem ta {k:Nat} {x:n9} (h:nth (lq ops) k=some x):∃ o,ops[k]?=some o∧x=ln ops o:=by
 rw [bf,lq,List.getElem?_map,Array.getElem?_toList] at h
 cases ho:ops[k]? with
 | none=>rw [ho] at h; cases h
 | some o=>rw [ho] at h; exact ⟨o,rfl,by simpa using h.symm⟩
theorem jH {e:Nat}:∀ {l:List Edge},e∈qt l↔∃ ed∈l,Region.binds .any ed=true∧ed.on=e
 | []=>by simp [qt]
 | x :: l=>by
  unfold qt
  cases hb:Region.binds .any x with
  | true=>
   simp only [cond_true,List.mem_cons,jH (l:=l),exists_eq_or_imp,hb,true_and]
   constructor
   ·rintro (h | h)
    ·exact .inl h.symm
    ·exact .inr h
   ·rintro (h | h)
    ·exact .inl h.symm
    ·exact .inr h
  | false=>simp only [cond_false,List.mem_cons,jH (l:=l),exists_eq_or_imp,hb,false_and,false_or,Bool.false_eq_true]
theorem A1 {x y:Oper} (h:ux (ln ops x) (ln ops y)=true):x.apart ops y=true:=by
 have hm:∀ (d:Nat) (l:List Nat),ks d l=false→l.contains d=false:=fun d l h=>by
  cases hc:l.contains d with
  | false=>rfl
  | true=>rw [fF.2 (by simpa using hc)] at h; cases h
 unfold ux at h
 unfold Oper.apart
 simp only [ln,Bool.and_eq_true] at h ⊢
 refine ⟨?_,?_⟩
 ·cases hx:x.dst with
  | none=>rfl
  | some d=>
   rw [hx] at h
   simp only [Bool.and_eq_true,Bool.not_eq_true'] at h ⊢
   refine ⟨hm _ _ h.1.1,?_⟩
   have h2:=h.1.2
   cases hy:y.dst with
   | none=>rfl
   | some e=>
    rw [hy] at h2
    simp only [Bool.not_eq_true'] at h2
    have:e≠d:=fun k=>by rw [k,sE] at h2; cases h2
    simpa using this
 ·cases hy:y.dst with
  | none=>rfl
  | some d=>
   rw [hy] at h
   simp only [Bool.not_eq_true'] at h ⊢
   exact hm _ _ h.2
def Dr (ops:Array Oper) (L:Nat) (listed:Array Bool):Prop:=listed.size=ops.size∧∀ i,i < ops.size→listed[i]?=some (L.testBit i)
theorem Dr.add {L:Nat} {listed:Array Bool} (h:Dr ops L listed) (j:Nat):Dr ops (L ||| 2 ^ j) (listed.setIfInBounds j true):=by
 refine ⟨by simp [h.1],fun i hi=>?_⟩
 rw [Nat.testBit_or,Nat.testBit_two_pow]
 by_cases e:j=i
 ·subst e
  rw [Array.getElem?_setIfInBounds_self_of_lt (by rw [h.1]; exact hi)]
  simp
 ·rw [Array.getElem?_setIfInBounds_ne e,h.2 i hi]
  simp [e]
theorem Dr.Ds {L:Nat} {listed:Array Bool} (h:Dr ops L listed) {i:Nat} (hi:i < ops.size) (b:Bool):listed.getD i b=L.testBit i:=by
 rw [Array.getD_eq_getD_getElem?,h.2 i hi]; rfl
theorem rX {L:Nat} {listed:Array Bool} (h:Dr ops L listed) {j:Nat} {o:Oper} (ho:ops[j]?=some o) (h1:L.testBit j=false) (h2:((ln ops o).pr.all fun e=>L.testBit e)=true)
  (cu:∀ e∈o.after,Region.binds .any e=true→e.on < ops.size):j∈Region.ready .any ops listed:=by
 have hj:j < ops.size:=(Array.getElem?_eq_some_iff.1 ho).1
 refine mem_ready.2 ⟨by rw [h.Ds hj]; exact h1,o,ho,fun e he hb=>?_⟩
 rw [h.Ds (cu e he hb)]
 exact List.all_eq_true.1 h2 e.on (jH.2 ⟨e,by simpa using he,hb,rfl⟩)
def UU (n:Nat) (I:List n9):Bool:=I.all fun x=>x.pr.all fun e=>Nat.blt e n
theorem iq {k:Nat} {o:Oper} (h:ops[k]?=some o):nth (lq ops) k=some (ln ops o):=by
 rw [bf,lq,List.getElem?_map,Array.getElem?_toList,h]; rfl
theorem lr {k:Nat} {o:Oper} (h:ops[k]?=some o):(lq ops)[k]?=some (ln ops o):=by
 rw [← bf]; exact iq h
theorem qw (h:UU ops.size (lq ops)=true) {k:Nat} {o:Oper} (ho:ops[k]?=some o):∀ e∈o.after,Region.binds .any e=true→e.on < ops.size:=fun e he hb=>by
 have h1:=List.all_eq_true.1 h (ln ops o) (List.mem_of_getElem? (lr ho))
 have h2:=List.all_eq_true.1 h1 e.on (jH.2 ⟨e,by simpa using he,hb,rfl⟩)
 exact Nat.le_of_ble_eq_true h2
theorem yn {j:Nat} {x:n9} {c:List Nat}:∀ {l:List n9} {i:Nat},Dn j x c i l=true→∀ k y,l[k]?=some y→(Nat.beq (i+k) j || ks j y.pr || ks (i+k) c || ux x y)=true
 | [],_,_,k,y,hk=>by simp at hk
 | z :: l,i,h,k,y,hk=>by
  unfold Dn at h
  rw [Bool.and_eq_true] at h
  cases k with
  | zero=>simp at hk; subst hk; exact h.1
  | succ k=>
   have:=yn h.2 k y (by simpa using hk)
   rw [show i+1+k=i+(k+1) by omega] at this
   exact this
theorem yo {I:List n9}:∀ {l:List n9} {j:Nat} {cs:List (List Nat)},Dp I j l cs=true→∀ k x c,l[k]?=some x→cs[k]?=some c→x.n=true→Dn (j+k) x c 0 I=true
 | [],_,_,_,k,x,c,hk,_,_=>by simp at hk
 | z :: l,j,[],_,k,x,c,_,hc,_=>by simp at hc
 | z :: l,j,d :: cs,h,k,x,c,hk,hc,hn=>by
  unfold Dp at h
  rw [Bool.and_eq_true] at h
  cases k with
  | zero=>
   simp at hk hc
   subst hk hc
   have:=h.1
   rw [hn] at this
   simpa using this
  | succ k=>
   have:=yo h.2 k x c (by simpa using hk) (by simpa using hc) hn
   rw [show j+1+k=j+(k+1) by omega] at this
   exact this
theorem vC:∀ {l:List n9} {i:Nat},yl dH i l=true→∀ k x,l[k]?=some x→∀ a∈dH (i+k),∃ e∈x.pr,e=a∨a∈dH e
 | [],_,_,k,x,hk=>by simp at hk
 | z :: l,i,h,k,x,hk=>by
  unfold yl at h
  rw [Bool.and_eq_true] at h
  cases k with
  | zero=>
   simp at hk
   subst hk
   intro a ha
   have h1:=List.all_eq_true.1 h.1 a ha
   obtain ⟨e,he,h2⟩:=List.any_eq_true.1 h1
   rw [Bool.or_eq_true] at h2
   refine ⟨e,he,?_⟩
   rcases h2 with h2 | h2
   ·exact .inl (Nat.eq_of_beq_eq_true h2)
   ·exact .inr (fF.1 h2)
  | succ k=>
   have:=vC h.2 k x (by simpa using hk)
   rw [show i+1+k=i+(k+1) by omega] at this
   exact this
theorem FR (h:yl dH 0 (lq ops)=true):AY ops dH:=fun i oi a hi ha=>by
 have h1:=vC h i _ (lr hi) a (by rw [Nat.zero_add]; exact ha)
 obtain ⟨e,he,h2⟩:=h1
 obtain ⟨ed,q1,q2,rfl⟩:=jH.1 he
 exact ⟨ed,by simpa using q1,q2,h2⟩
theorem pE {L:Nat}:∀ {l:List n9} {i k:Nat},k∈oa L i l↔∃ j x,k=i+j∧l[j]?=some x∧L.testBit k=false∧(x.pr.all fun e=>L.testBit e)=true
 | [],i,k=>by simp [oa]
 | z :: l,i,k=>by
  have ih:=pE (L:=L) (l:=l) (i:=i+1) (k:=k)
  have rest:(∃ j x,k=i+1+j∧l[j]?=some x∧L.testBit k=false∧(x.pr.all fun e=>L.testBit e)=true)↔∃ j x,k=i+(j+1)∧(z :: l)[j+1]?=some x∧L.testBit k=false∧(x.pr.all fun e=>L.testBit e)=true:=by
   constructor
   ·rintro ⟨j,x,h1,h2⟩; exact ⟨j,x,by omega,by simpa using h2⟩
   ·rintro ⟨j,x,h1,h2⟩; exact ⟨j,x,by omega,by simpa using h2⟩
  unfold oa
  cases hc:(!L.testBit i&&z.pr.all fun e=>L.testBit e) with
  | true=>
   simp only [cond_true,List.mem_cons,ih,rest]
   rw [Bool.and_eq_true,Bool.not_eq_true'] at hc
   constructor
   ·rintro (rfl | ⟨j,x,h⟩)
    ·exact ⟨0,z,rfl,rfl,hc⟩
    ·exact ⟨j+1,x,h⟩
   ·rintro ⟨j,x,h1,h2⟩
    cases j with
    | zero=>exact .inl h1
    | succ j=>exact .inr ⟨j,x,h1,h2⟩
  | false=>
   simp only [cond_false,ih,rest]
   constructor
   ·rintro ⟨j,x,h⟩; exact ⟨j+1,x,h⟩
   ·rintro ⟨j,x,h1,h2,h3,h4⟩
    cases j with
    | zero=>
     simp at h2 h1
     subst h1 h2
     rw [h3,h4] at hc
     cases hc
    | succ j=>exact ⟨j,x,h1,h2,h3,h4⟩
theorem pF {L k:Nat} {x:n9}:∀ {l:List n9} {i:Nat},qv dH L k x i l=true→∀ j y,l[j]?=some y→L.testBit (i+j)=false→qu x y=true→k∈dH (i+j)
 | [],_,_,j,y,hj=>by simp at hj
 | z :: l,i,h,j,y,hj=>by
  unfold qv at h
  rw [Bool.and_eq_true] at h
  cases j with
  | zero=>
   simp at hj
   subst hj
   intro h1 h2
   have h3:=h.1
   rw [Nat.add_zero] at h1
   rw [h1,h2] at h3
   exact fF.1 (by simpa using h3)
  | succ j=>
   have:=pF h.2 j y (by simpa using hj)
   rw [show i+1+j=i+(j+1) by omega] at this
   exact this
theorem vD {L:Nat} {listed:Array Bool} (hM:Dr ops L listed) {C C':List Nat} (h:wM (lq ops) dH L C C'=true):∀ k∈C,k∈C'∨∀ i ok oi,ops[k]?=some ok→ops[i]?=some oi→listed.getD i true=false→jZ ok oi=true→k∈dH i:=fun k hk=>by
 have h1:=List.all_eq_true.1 h k hk
 rw [Bool.or_eq_true] at h1
 rcases h1 with h1 | h1
 ·exact .inl (fF.1 h1)
 ·refine .inr fun i ok oi q1 q2 q3 q4=>?_
  rw [iq q1] at h1
  have hi:i < ops.size:=(Array.getElem?_eq_some_iff.1 q2).1
  have:=pF h1 i _ (lr q2) (by rw [Nat.zero_add,← hM.Ds hi]; exact q3) q4
  rw [Nat.zero_add] at this
  exact this
theorem A2 {C:List Nat} (h:Hh (lq ops) C=true):NC ops C:=fun k hk ok eD=>by
 have:=List.all_eq_true.1 h k hk
 rw [iq eD] at this
 exact this
theorem yp {L j:Nat} {x:n9} {W:List Nat}:∀ {l:List n9} {i:Nat},Hg dH L W j x i l=true→∀ k y,l[k]?=some y→(Nat.beq (i+k) j || L.testBit (i+k) || ks j (dH (i+k)) || (ux x y&&y.lo.all fun e=>ks e W))=true
 | [],_,_,k,y,hk=>by simp at hk
 | z :: l,i,h,k,y,hk=>by
  unfold Hg at h
  rw [Bool.and_eq_true] at h
  cases k with
  | zero=>simp at hk; subst hk; exact h.1
  | succ k=>
   have:=yp h.2 k y (by simpa using hk)
   rw [show i+1+k=i+(k+1) by omega] at this
   exact this
theorem yq {d:Nat} {s:bj}:∀ {l:List Nat},He d s l=true→∀ e∈l,∀ off,lk s e≠.lp d off
 | [],_,e,he,_=>by cases he
 | a :: l,h,e,he,off=>by
  unfold He at h
  rw [Bool.and_eq_true] at h
  rcases List.mem_cons.1 he with rfl | he
  ·intro hv
   have h1:=h.1
   rw [hv] at h1
   simp only [sE] at h1
   cases h1
  ·exact yq h.2 e he off
theorem pG {cf:List (List Nat)} (hA:AY ops dH) (hP:UU ops.size (lq ops)=true) (hF:Dp (lq ops) 0 (lq ops) cf=true) (hK:Inv K):∀ (T:DT) (n:Nat) (C:List Nat) (listed:Array Bool) (L:Nat),NC ops C→n5 dH listed→Dr ops L listed →
  (lU (lq ops) (2 ^ ops.size - 1) dH cf T n C L none=true→∀ s,tR E f ops.toList T K s→gi E f ops dH C K n listed s) ∧
  (∀ m l,n=m+1→lU (lq ops) (2 ^ ops.size - 1) dH cf T n C L (some l)=true→∀ s,tR E f ops.toList T K s→∀ i∈l,i∈Region.ready .any ops listed→∀ oi,ops[i]?=some oi →
   cp E f ops.toList oi (fun s'=>IK E f ops dH C i s'∧gi E f ops dH C K m (listed.setIfInBounds i true) s') s)
 | .done,n,C,listed,L,hC,jF,hM=>by
  refine ⟨fun h s hs=>?_,fun m l _ h=>by simp [lU] at h⟩
  have hL:L=2 ^ ops.size - 1:=Nat.eq_of_beq_eq_true (by simpa only [lU] using h)
  have hr:Region.ready .any ops listed=[]:=by
   apply List.eq_nil_iff_forall_not_mem.2
   intro j hj
   obtain ⟨h1,o,ho,_⟩:=mem_ready.1 hj
   have cu:j < ops.size:=(Array.getElem?_eq_some_iff.1 ho).1
   rw [hM.Ds cu,hL,Nat.testBit_two_pow_sub_one] at h1
   simp [cu] at h1
  cases n with
  | zero=>exact ⟨hr,hs⟩
  | succ n=>exact ⟨fun _=>hs,fun i hi=>by rw [hr] at hi; simp at hi⟩
 | .stop,n,C,listed,L,hC,jF,hM=>by
  refine ⟨fun h=>by cases n <;> simp [lU] at h,fun m l e h s _ i hi=>?_⟩
  subst e
  have:l=[]:=by simpa [lU] using h
  rw [this] at hi
  simp at hi
 | .al j W T,0,C,listed,L,hC,jF,hM=>⟨fun h=>by simp [lU] at h,fun m l e=>by cases e⟩
 | .al j W T,n+1,C,listed,L,hC,jF,hM=>by
  refine ⟨fun h s hs=>?_,fun m l _ h=>by simp [lU] at h⟩
  unfold lU at h
  split at h
  ·rename_i x hx
   obtain ⟨oj,hj,rfl⟩:=ta hx
   split at h
   ·cases h
   ·rename_i d hd
    simp only [od,Bool.and_eq_true] at h
    obtain ⟨⟨⟨⟨⟨hCe,Ae⟩,hbit⟩,Zm⟩,xC⟩,hT⟩:=h
    have hCe:C=[]:=by simpa using hCe
    subst hCe
    have Ae:bZ oj.op=true:=Ae
    have hd:oj.dst=some d:=hd
    have yt:j∈Region.ready .any ops listed:=rX hM hj (by simpa using hbit) Zm (qw hP hj)
    obtain ⟨ih,_⟩:=pG hA hP hF hK T n [] (listed.setIfInBounds j true) (L ||| 2 ^ j) (fun k hk=>by cases hk) (jF.add hA yt) (hM.add j)
    unfold tR at hs
    rw [bf,Array.getElem?_toList,hj] at hs
    simp only at hs
    obtain ⟨eD,hs⟩:=hs
    unfold US at eD
    split at eD
    ·rename_i _ d' hg GK
     rw [hd] at GK
     cases GK
     rw [Bool.and_eq_true] at eD
     have UR:E.zU f d=false:=by simpa using eD.1
     have Uh:cp E f ops.toList oj (gi E f ops dH [] K n (listed.setIfInBounds j true)) s:=cq hs fun s' h'=>ih hT s' h'
     unfold cp at Uh
     rw [hg] at Uh
     obtain ⟨s1,q1,q2⟩:=(Hc Ae).1 Uh
     refine KI hA hK hj hg hd Ae UR n listed s s1 jF (fun i oi hi cD KG ul=>?_) yt q1 q2
     have gD:=yp xC i _ (lr hi)
     rw [Nat.zero_add] at gD
     simp only [Bool.or_eq_true] at gD
     have UW:i < ops.size:=(Array.getElem?_eq_some_iff.1 hi).1
     rcases gD with ((h1 | h1) | h1) | h1
     ·exact absurd (Nat.eq_of_beq_eq_true h1) cD
     ·rw [hM.Ds UW,h1] at KG; cases KG
     ·exact absurd (fF.1 h1) ul
     ·rw [Bool.and_eq_true] at h1
      exact ⟨A1 h1.1,fun e he off=>yq eD.2 e (fF.1 (List.all_eq_true.1 h1.2 e he)) off⟩
    ·cases eD
  ·cases h
 | .take j C' T,0,C,listed,L,hC,jF,hM=>⟨fun h=>by simp [lU] at h,fun m l e=>by cases e⟩
 | .take j C' T,n+1,C,listed,L,hC,jF,hM=>by
  refine ⟨fun h s hs=>?_,fun m l _ h=>by simp [lU] at h⟩
  unfold lU at h
  split at h
  ·rename_i x c hx hc
   obtain ⟨oj,hj,rfl⟩:=ta hx
   split at h
   ·cases h
   ·rename_i d hd
    simp only [od,Bool.and_eq_true] at h
    obtain ⟨⟨⟨⟨⟨⟨⟨hN,Dl⟩,hCd⟩,hcf⟩,hbit⟩,Zm⟩,oP⟩,UX,hT⟩:=h
    have hN:tQ oj.op=true:=hN
    have hd:oj.dst=some d:=hd
    have yt:j∈Region.ready .any ops listed:=rX hM hj (by simpa using hbit) Zm (qw hP hj)
    have X1:∀ {d:Nat} {l:List Nat},(!ks d l)=true→d∉l:=fun h hm=>by rw [fF.2 hm] at h; cases h
    have UY:d∉oj.looksAt ops:=X1 Dl
    have ac7:∀ k∈C,∀ ok,ops[k]?=some ok→d∉ok.looksAt ops∧ok.dst≠some d:=fun k hk ok eD=>by
     have:=List.all_eq_true.1 hCd k hk
     rw [iq eD] at this
     simp only [Bool.and_eq_true] at this
     refine ⟨X1 this.1,fun e=>?_⟩
     have h2:=this.2
     simp only [ln,e,sE] at h2
     cases h2
    have Oe:NC ops (j :: C):=fun k hk ok ho=>by
     rcases List.mem_cons.1 hk with rfl | hk
     ·rw [hj] at ho; cases ho; exact hN
     ·exact hC k hk ok ho
    have ac8:=jF.add hA yt
    obtain ⟨ih,_⟩:=pG hA hP hF hK T n C' (listed.setIfInBounds j true) (L ||| 2 ^ j) (A2 oP) ac8 (hM.add j)
    unfold tR at hs
    rw [bf,Array.getElem?_toList,hj] at hs
    simp only at hs
    have Uh:cp E f ops.toList oj (gi E f ops dH (j :: C) K n (listed.setIfInBounds j true)) s:=cq hs fun s' h'=>n3 n _ _ (vD (hM.add j) UX) (ih hT s' h')
    obtain ⟨x,uc,hk⟩:=yh hN (iT Oe hK _ _) Uh
    rw [hd] at hk
    refine FP hA hC hK hj hN hd UY ac7 n listed s x jF (fun i oi hi cD KG ul=>?_) yt uc hk
    have xC:=yo hF j _ c (lr hj) (by rw [← bf]; exact hc) hN
    have gD:=yn xC i _ (lr hi)
    rw [Nat.zero_add,Nat.zero_add] at gD
    simp only [Bool.or_eq_true] at gD
    have UW:i < ops.size:=(Array.getElem?_eq_some_iff.1 hi).1
    rcases gD with ((h1 | h1) | h1) | h1
    ·exact absurd (Nat.eq_of_beq_eq_true h1) cD
    ·obtain ⟨e,q1,q2,q3⟩:=jH.1 (fF.1 h1)
     exact absurd q3 (ul e (by simpa using q1) q2)
    ·have:=List.all_eq_true.1 hcf i (fF.1 h1)
     rw [hM.Ds UW,this] at KG
     cases KG
    ·exact A1 h1
  ·cases h
 | .br i re C' T more,0,C,listed,L,hC,jF,hM=>⟨fun h=>by simp [lU] at h,fun m l e=>by cases e⟩
 | .br i re C' T more,n+1,C,listed,L,hC,jF,hM=>by
  have main:∀ left l,(match left with | none=>oa L 0 (lq ops) | some l=>l)=l→lU (lq ops) (2 ^ ops.size - 1) dH cf (.br i re C' T more) (n+1) C L left=true→∀ s,tR E f ops.toList (.br i re C' T more) K s→i∈l∧∀ k∈l,k∈Region.ready .any ops listed→∀ ok,ops[k]?=some ok →
    cp E f ops.toList ok (fun s'=>IK E f ops dH C k s'∧gi E f ops dH C K n (listed.setIfInBounds k true) s') s:=by
   intro left l hl h s hs
   unfold lU at h
   split at h
   ·cases h
   ·rename_i y hy
    obtain ⟨oi,s8,rfl⟩:=ta hy
    have h:(Tj (lq ops) dH C re i (ln ops oi)&&Hh (lq ops) C'&&ks i l&&(wM (lq ops) dH (L ||| 2 ^ i) C C'&&lU (lq ops) (2 ^ ops.size - 1) dH cf T n C' (L ||| 2 ^ i) none) &&
     lU (lq ops) (2 ^ ops.size - 1) dH cf more (n+1) C L (some (l.filter fun k=>!Nat.beq k i)))=true:=by
     cases left with
     | none=>simp only at hl; subst hl; simp only [ym,od] at h; exact h
     | some l'=>simp only at hl; subst hl; simp only [od] at h; exact h
    simp only [Bool.and_eq_true] at h
    obtain ⟨⟨⟨⟨YV,oP⟩,qR⟩,UX,hT⟩,hmore⟩:=h
    unfold tR at hs
    refine ⟨fF.1 qR,fun k hk hkr ok eD=>?_⟩
    by_cases e:k=i
    ·subst e
     rw [s8] at eD
     cases eD
     obtain ⟨ih,_⟩:=pG hA hP hF hK T n C' (listed.setIfInBounds k true) (L ||| 2 ^ k) (A2 oP) (jF.add hA hkr) (hM.add k)
     have h1:=hs.1
     rw [bf,Array.getElem?_toList,s8] at h1
     refine cq h1 fun s' h'=>⟨fun c hc oc Ti q1 q2 q3 q4=>?_,n3 n _ _ (vD (hM.add k) UX) (ih hT s' h'.2)⟩
     rw [s8] at q2
     cases q2
     have AN:=List.all_eq_true.1 YV c hc
     rw [iq q1] at AN
     have q3':qu (ln ops oc) (ln ops oi)=true:=q3
     simp only [q3',Bool.not_true,Bool.false_or,Bool.or_eq_true] at AN
     rcases AN with AN | AN
     ·have hm:c∈re:=fF.1 AN
      have:∀ (re:List Nat),c∈re→A0 E f ops.toList re s'→FJ E f ops.toList oc s':=by
       intro re
       induction re with
       | nil=>intro hm; simp at hm
       | cons a re ihr=>
        intro hm ha
        rcases List.mem_cons.1 hm with rfl | hm
        ·have:=ha.1
         rw [bf,Array.getElem?_toList,q1] at this
         exact this
        ·exact ihr hm ha.2
      exact this re hm h'.1
     ·exact absurd (fF.1 AN) q4
    ·obtain ⟨_,ih⟩:=pG hA hP hF hK more (n+1) C listed L hC jF hM
     refine ih n _ rfl hmore s hs.2 k ?_ hkr ok eD
     rw [List.mem_filter]
     exact ⟨hk,by rw [nN e]; rfl⟩
  refine ⟨fun h s hs=>?_,fun m l e h s hs k hk hkr ok eD=>?_⟩
  ·obtain ⟨m1,m2⟩:=main none _ rfl h s hs
   have back:∀ k,k∈oa L 0 (lq ops)→k∈Region.ready .any ops listed:=fun k hk=>by
    obtain ⟨j,x,q1,q2,q3,q4⟩:=pE.1 hk
    rw [Nat.zero_add] at q1
    subst q1
    rw [← bf] at q2
    obtain ⟨o,ho,rfl⟩:=ta q2
    exact rX hM ho q3 q4 (qw hP ho)
   have Zn:∀ k,k∈Region.ready .any ops listed→k∈oa L 0 (lq ops):=fun k hk=>by
    obtain ⟨h1,o,ho,oP⟩:=mem_ready.1 hk
    have cu:k < ops.size:=(Array.getElem?_eq_some_iff.1 ho).1
    refine pE.2 ⟨k,ln ops o,by omega,lr ho,by rw [← hM.Ds cu]; exact h1,List.all_eq_true.2 fun e he=>?_⟩
    obtain ⟨ed,q1,q2,rfl⟩:=jH.1 he
    have h2:=oP ed (by simpa using q1) q2
    rw [hM.Ds (qw hP ho ed (by simpa using q1) q2)] at h2
    exact h2
   refine ⟨fun h0=>?_,fun k hk ok eD=>m2 k (Zn k hk) hk ok eD⟩
   have:=back i m1
   rw [h0] at this
   simp at this
  ·cases e
   exact (main (some l) l rfl h s hs).2 k hk hkr ok eD
theorem yu {R:an} {w:World} {β:Nat→Nat} {F:Fence} {Qc:Exit→Act→World→Prop} {C:List Nat} (hQ:∀ a' w',pz E R w β s K a' w'→Qc .normal a' w') :
  ∀ (n:Nat) (listed:Array Bool) (R1:an) (w1:World) (β1:Nat→Nat) (s1:St) (a1:Act),bo E R1 w1 β1 s1 a1→Step R w β s.boxes R1 w1 β1 s1.boxes→s1.ro=s.ro→bY R1 s1.ro F →
   gi E f ops dH C K n listed s1→wpAnyIn F 0 E.P .any ops Qc n listed a1 w1
 | 0,listed,R1,w1,β1,s1,a1,hr,lT,bU,_,ha=>⟨ha.1,hQ _ _ ⟨s1,R1,β1,ha.2,hr,lT,bU⟩⟩
 | n+1,listed,R1,w1,β1,s1,a1,hr,lT,bU,hf,ha=>by
  refine ⟨fun h0=>hQ _ _ ⟨s1,R1,β1,ha.1 h0,hr,lT,bU⟩,fun i hi=>?_⟩
  obtain ⟨_,o,ho,_⟩:=mem_ready.1 hi
  unfold wpOpIn
  simp only [ho]
  refine sY hr hf (ha.2 i hi o ho) _ ?_
  rintro a' w' ⟨s',R',β',q1,q2,q3,q4⟩
  exact yu hQ n _ R' w' β' s' a' q2 (lT.trans q3) (q4.trans bU) (by rw [q4]; exact hf.mono q3.ext) q1.2
theorem fZ {K':St→Prop} (hK:∀ s,K s→K' s):∀ (T:DT) (s:St),tR E f ops.toList T K s→tR E f ops.toList T K' s
 | .done,s,h=>hK s h
 | .stop,_,_=>trivial
 | .take j C T,s,h=>by
  unfold tR at h ⊢
  split
  ·rename_i oj hj
   rw [hj] at h
   exact cq h fun s' h'=>fZ hK T s' h'
  ·rename_i hj
   rw [hj] at h
   exact h
 | .al j W T,s,h=>by
  unfold tR at h ⊢
  split
  ·rename_i oj hj
   rw [hj] at h
   exact ⟨h.1,cq h.2 fun s' h'=>fZ hK T s' h'⟩
  ·rename_i hj
   rw [hj] at h
   exact h
 | .br i re C T more,s,h=>by
  unfold tR at h ⊢
  refine ⟨?_,fZ hK more s h.2⟩
  have h:=h.1
  split
  ·rename_i oj hj
   rw [hj] at h
   exact cq h fun s' h'=>⟨h'.1,fZ hK T s' h'.2⟩
  ·rename_i hj
   rw [hj] at h
   exact h
structure ai where
 dH:List (List Nat)
 cf:List (List Nat)
 T:DT
def FT (ops:Array Oper) (p:ai):Bool:=Hf (ops.toList.map (ln ops)) fun I=>
 BW ops.size fun n=>BW (2 ^ n - 1) fun N=>yl (KJ p.dH) 0 I&&UU n I&&Dp I 0 I p.cf&&lU I N (KJ p.dH) p.cf p.T n [] 0 none
theorem bo.drawn {R:an} {w:World} {β:Nat→Nat} {a:Act} (h:bo E R w β s a):bo E R { w with drawn:=w.drawn+1 } β s a∧Step R w β s.boxes R { w with drawn:=w.drawn+1 } β s.boxes:=by
 have e:Ext R w R { w with drawn:=w.drawn+1 }:=⟨fun _ _ h=>h,fun _ _ _=>rfl,fun _ ro h=>⟨ro,h,cJ.refl ro⟩,hJ.refl w⟩
 refine ⟨⟨⟨h.g.len,fun id go ro h1 h2=>(h.g.obj id go ro h1 h2).mono e (fun _ _=>rfl) (fun _ _ _ h=>h),h.g.inj,h.g.wf,fun g cs hg=>(h.g.cm g cs hg).mono e,Nat.le_succ_of_le h.g.lo⟩,?_,h.t.mono e,h.n,h.d⟩,?_⟩
 ·exact h.b.bJ e (fun _ _ _=>rfl) (fun _ _ _ _ h=>h) (fun _ _ _ h=>h)
 ·exact ⟨e,rfl,rfl,rfl,Nat.le_refl _,fun _ _ _=>rfl,fun _ _ h=>h,fun _ _ h _ _=>h⟩
theorem gE.draw {id:Nat} {p:ai} {Q:Exit→St→Prop} (eD:FT ops p=true) (h:tR E f ops.toList p.T (Q .normal) s):gE E (.region id ops true) Q s:=fun R w β a F hr hf=>by
 simp only [FT,Dq,od,Bool.and_eq_true] at eD
 obtain ⟨⟨⟨hA,hP⟩,hF⟩,hT⟩:=eD
 refine wpIn_region_any E.mixed ?_
 obtain ⟨q1,q2⟩:=hr.drawn
 have hK:Inv (fun s=>∃ u,qp u s∧Q .normal u):=fun s t e ⟨u,h1,h2⟩=>⟨u,h1.trans e,h2⟩
 have h':=fZ (K':=fun s=>∃ u,qp u s∧Q .normal u) (fun s h=>⟨s,qp.refl s,h⟩) p.T s h
 have jF:n5 (KJ p.dH) (Array.replicate ops.size false):=fun i hi=>by
  rw [Array.getD_eq_getD_getElem?,Array.getElem?_replicate] at hi
  split at hi <;> cases hi
 have KK:=(pG (E:=E) (f:=f) (FR hA) hP hF hK p.T ops.size [] (Array.replicate ops.size false) 0 (fun k hk=>by simp at hk) jF ⟨by simp,fun i hi=>by simp [hi]⟩).1 hT s h'
 refine yu (R:=R) (w:=w) (β:=β) (s:=s) (f:=f) (K:=fun s=>∃ u,qp u s∧Q .normal u) ?_ _ _ R _ β s a q1 q2 rfl hf KK
 rintro a' w' ⟨s',R',β',⟨u,e,hu⟩,h2,h3,h4⟩
 exact ⟨u,R',β',hu,h2.eqv e.symm,h3.eqv rfl e.symm.b,e.ro.trans h4⟩
end
end Go.Am
