/- The abstract machine: regions whose order the tape draws,along a tree of choices that was checked. -/
import Derived.Test.YtldcljfjjoidhaaGreatDoorAmKG
set_option linter.all false
namespace Go.Am
open Go
section
variable {E:Env} {s t:St} {f:FuncId} {ops:Array Oper} {o oj oi:Oper} {d:Tmp} {x:SV} {K K':St→Prop} {cY:Nat→List Nat} {C:List Nat}
def Gl (E:Env) (f:FuncId) (ops:Array Oper) (cY:Nat→List Nat) (C:List Nat) (i:Nat) (s:St):Prop:=
 ∀ j∈C,∀ oj oi,ops[j]?=some oj→ops[i]?=some oi→iH oj oi=true→j∉cY i→Dn E f ops.toList oj s
def NC (ops:Array Oper) (C:List Nat):Prop:=∀ j∈C,∀ oj,ops[j]?=some oj→rq oj.op=true
theorem ov {i:Nat} (hC:NC ops C):Inv (Gl E f ops cY C i):=fun _ _ e h j hj oj oi h1 h2 h3 h4=>LP (hC j hj oj h1) e (h j hj oj oi h1 h2 h3 h4)
def eP (E:Env) (f:FuncId) (ops:Array Oper) (cY:Nat→List Nat) (C:List Nat) (K:St→Prop):Nat→Array Bool→St→Prop
 | 0,listed,s=>Region.ready .any ops listed=[]∧K s
 | n+1,listed,s=>(Region.ready .any ops listed=[]→K s) ∧
   ∀ i∈Region.ready .any ops listed,∀ oi,ops[i]?=some oi→b7 E f ops.toList oi (fun s'=>Gl E f ops cY C i s'∧eP E f ops cY C K n (listed.setIfInBounds i true) s') s
theorem gz (hC:NC ops C) (hK:Inv K):∀ n listed,Inv (eP E f ops cY C K n listed)
 | 0,_=>fun s t e h=>⟨h.1,hK s t e h.2⟩
 | n+1,_=>fun s t e h=>⟨fun h0=>hK s t e (h.1 h0),fun i hi oi qH=>Bn (fun s t e h=>⟨ov hC s t e h.1,gz hC hK n _ s t e h.2⟩) s t e (h.2 i hi oi qH)⟩
theorem mm {C':List Nat}:∀ n (listed:Array Bool) (s:St),
  (∀ k∈C',k∈C∨∀ i ok oi,ops[k]?=some ok→ops[i]?=some oi→listed.getD i true=false→iH ok oi=true→k∈cY i) →
  eP E f ops cY C K n listed s→eP E f ops cY C' K n listed s
 | 0,_,_,_,h=>h
 | n+1,listed,s,hk,h=>⟨h.1,fun i hi oi qH=>b8 (h.2 i hi oi qH) fun s' h'=>⟨fun k Rs ok P2 h1 h2 h3 h4=>by
   rcases hk k Rs with h5 | h5
   ·exact h'.1 k h5 ok P2 h1 h2 h3 h4
   ·exact absurd (h5 i ok P2 h1 h2 (mem_ready.1 hi).1 h3) h4,mm n _ s' (fun k Rs=>by
   rcases hk k Rs with h5 | h5
   ·exact .inl h5
   ·refine .inr fun i' ok P2 h1 h2 h3 h4=>h5 i' ok P2 h1 h2 ?_ h4
    by_cases e:i=i'
    ·subst e; exact (mem_ready.1 hi).1
    ·rw [getD_set_ne true e] at h3; exact h3) h'.2⟩⟩
def yx (ops:Array Oper) (cY:Nat→List Nat):Prop:=∀ i oi a,ops[i]?=some oi→a∈cY i→∃ e∈oi.after,Region.binds .any e=true∧(e.on=a∨a∈cY e.on)
def mn (cY:Nat→List Nat) (listed:Array Bool):Prop:=∀ i,listed.getD i false=true→∀ a∈cY i,listed.getD a false=true
theorem mn.ready {listed:Array Bool} (h:mn cY listed) (ha:yx ops cY) {i:Nat} (hi:i∈Region.ready .any ops listed):∀ a∈cY i,listed.getD a false=true:=fun a X3=>by
 obtain ⟨_,o,ho,mO⟩:=mem_ready.1 hi
 obtain ⟨e,he,hb,h2⟩:=ha i o a ho X3
 rcases h2 with rfl | h2
 ·exact mO e he hb
 ·exact h _ (mO e he hb) a h2
theorem ja {listed:Array Bool} {i:Nat} (h:listed.getD i false=true):listed.getD i true=true:=by
 rw [Array.getD_eq_getD_getElem?] at *
 cases hl:listed[i]? with
 | none=>rw [hl] at h; cases h
 | some b=>rw [hl] at h; exact h
theorem mn.add {listed:Array Bool} (h:mn cY listed) (ha:yx ops cY) {i:Nat} (hi:i∈Region.ready .any ops listed):mn cY (listed.setIfInBounds i true):=fun k hk a X3=>by
 by_cases e:i=k
 ·subst e
  exact getD_set_true (h.ready ha hi a X3)
 ·rw [getD_set_ne false e] at hk
  exact getD_set_true (h k hk a X3)
theorem Du (hA:yx ops cY) (hC:NC ops C) (hK:Inv K) {j:Nat} (hj:ops[j]?=some oj) (hN:rq oj.op=true) (EM:oj.dst=some d) (Bp:d∉oj.looksAt ops)
  (Zd:∀ k∈C,∀ ok,ops[k]?=some ok→d∉ok.looksAt ops∧ok.dst≠some d):∀ n (listed:Array Bool) (s:St) (x:SV),mn cY listed →
   (∀ i oi,ops[i]?=some oi→i≠j→listed.getD i true=false→(∀ e∈oi.after,Region.binds .any e=true→e.on≠j)→oj.apart ops oi=true) →
   j∈Region.ready .any ops listed→vm E f ops oj s x→eP E f ops cY (j :: C) K n (listed.setIfInBounds j true) (s.put (some d) x)→eP E f ops cY C K (n+1) listed s:=by
 have Lm:NC ops (j :: C):=fun k hk ok ho=>by
  rcases List.mem_cons.1 hk with rfl | hk
  ·rw [hj] at ho; cases ho; exact hN
  ·exact hC k hk ok ho
 have self:∀ n (listed:Array Bool) (s:St) (x:SV),vm E f ops oj s x→eP E f ops cY (j :: C) K n (listed.setIfInBounds j true) (s.put (some d) x)→∀ oi,ops[j]?=some oi →
   b7 E f ops.toList oi (fun s'=>Gl E f ops cY C j s'∧eP E f ops cY C K n (listed.setIfInBounds j true) s') s:=fun n listed s x hx h oi qH=>by
  rw [hj] at qH
  cases qH
  refine vo hN (fun s t e h=>⟨ov hC s t e h.1,gz hC hK _ _ s t e h.2⟩) hx ?_
  rw [EM]
  refine ⟨fun k _ ok P2 _ h2 h3 _=>?_,mm n _ _ (fun k hk=>.inl (List.mem_cons_of_mem _ hk)) h⟩
  rw [hj] at h2
  cases h2
  simp [iH,Bl hN,hN] at h3
 intro n
 induction n with
 | zero=>
  intro listed s x _ _ hr hx h
  refine ⟨fun h0=>by rw [h0] at hr; simp at hr,fun i hi oi qH=>?_⟩
  by_cases e:i=j
  ·subst e; exact self 0 listed s x hx h oi qH
  ·have:=ready_mono hi e
   rw [h.1] at this
   simp at this
 | succ n ih=>
  intro listed s x iG iE hr hx h
  refine ⟨fun h0=>by rw [h0] at hr; simp at hr,fun i hi oi qH=>?_⟩
  by_cases e:i=j
  ·subst e; exact self (n+1) listed s x hx h oi qH
  ·have Ik:=(mem_ready.1 hi).1
   have LU:=(mem_ready.1 hr).1
   have Q0:∀ ed∈oi.after,Region.binds .any ed=true→ed.on≠j:=fun ed he hb jf=>by
    obtain ⟨_,o,ho,mO⟩:=mem_ready.1 hi
    rw [qH] at ho
    cases ho
    have h1:=ja (mO ed he hb)
    rw [jf,LU] at h1
    cases h1
   have UM:=iE i oi qH e Ik Q0
   have hG:=h.2 i (ready_mono hi e) oi qH
   have Il:j∉cY i:=fun hm=>by
    have h1:=ja (iG.ready hA hi j hm)
    rw [LU] at h1
    cases h1
   have X4:Inv (fun s'=>Gl E f ops cY (j :: C) i s'∧eP E f ops cY (j :: C) K n ((listed.setIfInBounds j true).setIfInBounds i true) s'):=
    fun s t e h=>⟨ov Lm s t e h.1,gz Lm hK _ _ s t e h.2⟩
   have Rt:∀ k ok,ops[k]?=some ok→k≠j→(listed.setIfInBounds i true).getD k true=false→(∀ e∈ok.after,Region.binds .any e=true→e.on≠j)→oj.apart ops ok=true:=fun k ok hk Ze VV rQ=>by
    refine iE k ok hk Ze ?_ rQ
    by_cases e':i=k
    ·subst e'; exact Ik
    ·rw [getD_set_ne true e'] at VV; exact VV
   have core:∀ {pre:a8} {preB:cw} {G:List GO},UK (bR oi.op) oi.dst pre→(rq oi.op=true→preB=[]∧G=s.G) →
     (Gl E f ops cY (j :: C) i ((s.put (some d) x).eH pre preB G)∧eP E f ops cY (j :: C) K n ((listed.setIfInBounds j true).setIfInBounds i true) ((s.put (some d) x).eH pre preB G)) →
     Gl E f ops cY C i (s.eH pre preB G)∧eP E f ops cY C K (n+1) (listed.setIfInBounds i true) (s.eH pre preB G):=by
    intro pre preB G xA VU hk
    obtain ⟨x',qj,gX⟩:=Gg hN EM Bp UM X4 hx xA VU hk (fun t' Br hd=>Br.1 j (List.mem_cons_self ..) oj oi hj qH hd Il)
    refine ⟨fun k Rs ok P2 h1 h2 h3 h4=>?_,?_⟩
    ·obtain ⟨q1,q2⟩:=Zd k Rs ok h1
     obtain ⟨b1,b2,b3,_⟩:=fg (s.eH pre preB G) (some d) x'
     exact LO (hC k Rs ok h1) q1 q2 (fun e he=>tZ _ _ _ he) (by rw [b1]) b2 b3 (gX.1 k (List.mem_cons_of_mem _ Rs) ok P2 h1 h2 h3 h4)
    ·refine ih (listed.setIfInBounds i true) _ x' (iG.add hA hi) Rt (ready_mono hr (Ne.symm e)) qj ?_
     rw [Array.setIfInBounds_comm _ _ e]
     exact gX.2
   rw [fe (fun s t e h=>⟨ov hC s t e h.1,gz hC hK _ _ s t e h.2⟩)]
   obtain ⟨Cs,_,_⟩:=Oper.apart_spec UM
   have sM:∀ e∈oi.looksAt ops,lk (s.put (some d) x).ae e=lk s.ae e:=fun e he=>tZ s d x fun k=>Cs d EM (k ▸ he)
   obtain ⟨b1,b2,b3,b4,b5⟩:=fg s (some d) x
   rcases (fe X4).1 hG with ⟨h1,h2⟩ | ⟨h1,h2⟩
   ·refine .inl ⟨by rw [← jz sM]; exact h1,rW b3 b2 (by rw [b1]) (jO sM) h2 fun pre preB G hp VU hk=>core hp (fun hh=>?_) hk⟩
    obtain ⟨q1,q2⟩:=VU hh
    exact ⟨q1,by rw [q2,b2]⟩
   ·refine .inr ⟨by rw [← jz sM]; exact h1,?_⟩
    obtain ⟨pre,preB,G,p1,p2,p3,p4⟩:=bL.put (s:=s.put (some d) x) (t:=s) (al:=bR oi.op) (w:=false) b3 b2 oi.dst (.v eX)
    obtain ⟨q1,q2,_⟩:=p2 rfl
    rw [p3] at h2
    rw [p4]
    exact core p1 (fun _=>⟨q1,by rw [q2,b2]⟩) h2
theorem EP {i:Nat} {s:St}:Gl E f ops cY [] i s:=fun j hj=>by cases hj
theorem Ru {y:Operand} {k off:Nat} (h:bB E s.ae y=.lp k off):∃ e,y=.tmp e∧lk s.ae e=.lp k off:=by
 cases y with
 | tmp e=>exact ⟨e,rfl,h⟩
 | const v=>simp only [bB] at h; split at h <;> cases h
 | global g=>simp only [bB] at h; split at h <;> cases h
 | func g=>cases h
theorem Im (hA:yx ops cY) (hK:Inv K) {j:Nat} (hj:ops[j]?=some oj) (hg:oj.guard=none) (EM:oj.dst=some d) (tM:bR oj.op=true) (Rv:E.xl f d=false):∀ n (listed:Array Bool) (s s1:St),mn cY listed →
  (∀ i oi,ops[i]?=some oi→i≠j→listed.getD i true=false→j∉cY i→oj.apart ops oi=true∧∀ e∈oi.looksAt ops,∀ off,lk s.ae e≠.lp d off) →
  j∈Region.ready .any ops listed→ap E f s oj=some (true,s1)→eP E f ops cY [] K n (listed.setIfInBounds j true) s1→eP E f ops cY [] K (n+1) listed s:=by
 have Lm:NC ops []:=fun k hk=>by cases hk
 have self:∀ n (listed:Array Bool) (s s1:St),ap E f s oj=some (true,s1)→eP E f ops cY [] K n (listed.setIfInBounds j true) s1→∀ oi,ops[j]?=some oi →
   b7 E f ops.toList oi (fun s'=>Gl E f ops cY [] j s'∧eP E f ops cY [] K n (listed.setIfInBounds j true) s') s:=fun n listed s s1 hx h oi qH=>by
  rw [hj] at qH
  cases qH
  unfold b7
  rw [hg]
  exact (EO tM).2 ⟨s1,hx,EP,h⟩
 intro n
 induction n with
 | zero=>
  intro listed s s1 _ _ hr hx h
  refine ⟨fun h0=>by rw [h0] at hr; simp at hr,fun i hi oi qH=>?_⟩
  by_cases e:i=j
  ·subst e; exact self 0 listed s s1 hx h oi qH
  ·have:=ready_mono hi e
   rw [h.1] at this
   simp at this
 | succ n ih=>
  intro listed s s1 iG iE hr hx h
  refine ⟨fun h0=>by rw [h0] at hr; simp at hr,fun i hi oi qH=>?_⟩
  by_cases e:i=j
  ·subst e; exact self (n+1) listed s s1 hx h oi qH
  ·have Ik:=(mem_ready.1 hi).1
   have LU:=(mem_ready.1 hr).1
   have Il:j∉cY i:=fun hm=>by
    have h1:=ja (iG.ready hA hi j hm)
    rw [LU] at h1
    cases h1
   obtain ⟨UM,rQ⟩:=iE i oi qH e Ik Il
   obtain ⟨Cs,cA,A0⟩:=Oper.apart_spec UM
   have Ih:oi.dst≠some d:=cA d EM
   obtain ⟨_,cs,rfl,EE⟩:=Ds tM EM Rv hx
   have hG:=h.2 i (ready_mono hi e) oi qH
   have X4:Inv (fun s'=>Gl E f ops cY [] i s'∧eP E f ops cY [] K n ((listed.setIfInBounds j true).setIfInBounds i true) s'):=
    fun s t e h=>⟨ov Lm s t e h.1,gz Lm hK _ _ s t e h.2⟩
   have Gk:∀ y∈oi.op.operands,∀ off,bB E s.ae y≠.lp d off:=fun y hy off hv=>by
    obtain ⟨e',rfl,hv⟩:=Ru hv
    exact rQ e' (mj hy) off hv
   have core:∀ {pre:a8} {preB:cw} {G:List GO},gM E s oi (s.eH pre preB G) →
     (Gl E f ops cY [] i ((pH s d cs).eH pre preB G)∧eP E f ops cY [] K n ((listed.setIfInBounds j true).setIfInBounds i true) ((pH s d cs).eH pre preB G)) →
     Gl E f ops cY [] i (s.eH pre preB G)∧eP E f ops cY [] K (n+1) (listed.setIfInBounds i true) (s.eH pre preB G):=by
    intro pre preB G LS hk
    refine ⟨EP,?_⟩
    obtain ⟨o1,o2⟩:=EN LS
    have sM:∀ e' off,oi.dst≠some e'∨lk (s.eH pre preB G).ae e'=.lp d off→lk (s.eH pre preB G).ae e'=.lp d off→lk s.ae e'=.lp d off:=by
     intro e' off _ hv
     have hv:lk (pre++s.ae) e'=.lp d off:=hv
     rcases o1 with rfl | ⟨d',x,Es,hp,VW⟩
     ·exact hv
     ·have qj:∀ off,x≠.lp d off:=fun off c=>by
       rcases VW d off c with ⟨y,hy,eY,ho⟩ | ⟨_,h⟩
       ·exact Gk y hy eY ho
       ·exact Ih (by rw [Es,h])
      by_cases c2:d'=e'
      ·subst c2
       rcases hp with rfl | rfl
       ·simp only [List.cons_append,List.nil_append,ay] at hv; exact absurd hv (qj off)
       ·simp only [List.cons_append,List.nil_append,ay] at hv; exact absurd hv (qj off)
      ·rcases hp with rfl | rfl
       ·simp only [List.cons_append,List.nil_append] at hv; rwa [aK c2] at hv
       ·simp only [List.cons_append,List.nil_append] at hv
        rw [aK c2,iI] at hv
        cases hl:lk s.ae e' with
        | lp k eY=>
         rw [hl] at hv
         simp only at hv
         cases hb:Nat.beq k d' with
         | true=>rw [hb] at hv; cases hv
         | false=>rw [hb] at hv; exact hv
        | v a=>rw [hl] at hv; cases hv
        | none=>rw [hl] at hv; cases hv
    refine ih (listed.setIfInBounds i true) _ _ (iG.add hA hi) ?_ (ready_mono hr (Ne.symm e)) (EE (s.eH pre preB G) rfl ?_) ?_
    ·intro k ok gX Ze VV Zf
     have Zg:listed.getD k true=false:=by
      by_cases e':i=k
      ·subst e'; exact Ik
      ·rw [getD_set_ne true e'] at VV; exact VV
     obtain ⟨q1,q2⟩:=iE k ok gX Ze Zg Zf
     exact ⟨q1,fun e' X5 off hv=>q2 e' X5 off (sM e' off (.inr hv) hv)⟩
    ·intro y hy v hv
     cases y with
     | tmp e'=>
      have Es:oi.dst≠some e':=fun c=>A0 e' c (mj hy)
      have hv:lk s.ae e'=.v v:=hv
      show lk (pre++s.ae) e'=.v v
      rcases o1 with rfl | ⟨d',x,VN,hp,_⟩
      ·exact hv
      ·have c2:d'≠e':=fun c=>Es (by rw [VN,c])
       rcases hp with rfl | rfl
       ·simp only [List.cons_append,List.nil_append]; rw [aK c2]; exact hv
       ·simp only [List.cons_append,List.nil_append]
        rw [aK c2,vq (fun off=>by rw [hv]; intro c; cases c)]; exact hv
     | const _=>exact hv
     | global _=>exact hv
     | func _=>exact hv
    ·rw [Array.setIfInBounds_comm _ _ e]
     exact gz Lm hK _ _ _ _ (Gj cs LS Ih Gk) hk.2
   have zC:∀ e'∈oi.looksAt ops,lk (pH s d cs).ae e'=lk s.ae e':=fun e' X5=>by
    have c1:d≠e':=fun c=>Cs d EM (c ▸ X5)
    show lk (.put d (.lp d 0) :: .kill d :: s.ae) e'=_
    rw [aK c1,vq (rQ e' X5)]
   have CX:∀ k off,(∃ y∈oi.op.operands,bB E (pH s d cs).ae y=.lp k off)→dm (pH s d cs).boxes k=dm s.boxes k:=by
    rintro k off ⟨y,hy,hv⟩
    rw [jO zC y hy] at hv
    have Lc:d≠k:=fun c=>Gk y hy off (by rw [c]; exact hv)
    show dm ((d,cs) :: s.boxes) k=dm s.boxes k
    simp only [dm]
    cases hb:Nat.beq d k with
    | true=>exact absurd (Nat.eq_of_beq_eq_true hb) Lc
    | false=>rfl
   rw [fe (fun s t e h=>⟨ov Lm s t e h.1,gz Lm hK _ _ s t e h.2⟩)]
   rcases (fe X4).1 hG with ⟨h1,h2⟩ | ⟨h1,h2⟩
   ·exact .inl ⟨by rw [← jz zC]; exact h1,Dt (s:=pH s d cs) (t:=s) rfl rfl CX (jO zC) h2 fun pre preB G hO hk=>core hO hk⟩
   ·refine .inr ⟨by rw [← jz zC]; exact h1,?_⟩
    obtain ⟨pre,preB,G,p1,p2,p3,p4⟩:=bL.put (s:=pH s d cs) (t:=s) (al:=bR oi.op) (w:=false) rfl rfl oi.dst (.v eX)
    rw [p3] at h2
    have hO:gM E s oi (s.put oi.dst (.v eX)):=jP rfl rfl _
    rw [p4] at hO ⊢
    exact core hO h2
end
inductive DT where
 | done
 | take (j:Nat) (C:List Nat) (t:DT)
 | br (i:Nat) (re C:List Nat) (t:DT) (more:DT)
 | stop
 | al (j:Nat) (W:List Nat) (t:DT)
structure mo where
 dst:Option Tmp
 lo:List Tmp
 pr:List Nat
 n:Bool
 r:Bool
 a:Bool
def EQ (d:Nat) (s:a8):List Nat→Bool
 | []=>true
 | e :: l=>(match lk s e with
  | .lp k _=>!Nat.beq k d
  | _=>true)&&EQ d s l
def Rw (E:Env) (f:FuncId) (o:Oper) (W:List Nat) (s:St):Bool:=match o.guard,o.dst with
 | none,some d=>!E.xl f d&&EQ d s.ae W
 | _,_=>false
def jb (x:Nat):List Nat→Bool
 | []=>false
 | y :: l=>Nat.beq x y || jb x l
def ow:List Edge→List Nat
 | []=>[]
 | e :: l=>bif Region.binds .any e then e.on :: ow l else ow l
def jQ (ops:Array Oper) (o:Oper):mo:=⟨o.dst,o.looksAt ops,ow o.after.toList,rq o.op,Rr o.op,bR o.op⟩
def zD {α:Type} (n:Nat) (K:Nat→α):α:=match n with
 | 0=>K 0
 | m+1=>K (Nat.succ m)
def yy {α:Type}:List Nat→(List Nat→α)→α
 | [],K=>K []
 | a :: l,K=>zD a fun a=>yy l fun l=>K (a :: l)
def Rx {α:Type} (i:mo) (K:mo→α):α:=match i with
 | ⟨d,lo,pr,n,r,a⟩=>yy lo fun lo=>yy pr fun pr=>(match d with
  | none=>(fun (K:Option Tmp→α)=>K none)
  | some d=>(fun (K:Option Tmp→α)=>zD d fun d=>K (some d))) fun d=>(bif n then (fun (K:Bool→α)=>K true) else fun K=>K false) fun n=>
   (bif r then (fun (K:Bool→α)=>K true) else fun K=>K false) fun r=>(bif a then (fun (K:Bool→α)=>K true) else fun K=>K false) fun a=>K ⟨d,lo,pr,n,r,a⟩
def ER {α:Type}:List mo→(List mo→α)→α
 | [],K=>K []
 | i :: l,K=>Rx i fun i=>ER l fun l=>K (i :: l)
def rY (x y:mo):Bool:=
 (match x.dst with
 | some d=>!jb d y.lo&&(match y.dst with | some e=>!Nat.beq e d | none=>true)
 | none=>true) &&
 (match y.dst with
 | some d=>!jb d x.lo
 | none=>true)
def Bs (j:Nat) (x:mo) (cf:List Nat):Nat→List mo→Bool
 | _,[]=>true
 | i,y :: l=>(Nat.beq i j || jb j y.pr || jb i cf || rY x y)&&Bs j x cf (i+1) l
def Bt (I:List mo):Nat→List mo→List (List Nat)→Bool
 | _,[],_=>true
 | j,x :: l,c :: cs=>(!x.n || Bs j x c 0 I)&&Bt I (j+1) l cs
 | _,_,_=>false
def vr (cY:Nat→List Nat):Nat→List mo→Bool
 | _,[]=>true
 | i,x :: l=>(cY i).all (fun a=>x.pr.any fun e=>Nat.beq e a || jb a (cY e))&&vr cY (i+1) l
def mq (L:Nat):Nat→List mo→List Nat
 | _,[]=>[]
 | i,x :: l=>bif !L.testBit i&&x.pr.all (fun e=>L.testBit e) then i :: mq L (i+1) l else mq L (i+1) l
def ox (x y:mo):Bool:=y.a || (x.r&&!y.n)
def oz (cY:Nat→List Nat) (L k:Nat) (x:mo):Nat→List mo→Bool
 | _,[]=>true
 | i,y :: l=>(L.testBit i || !ox x y || jb k (cY i))&&oz cY L k x (i+1) l
def ua (I:List mo) (cY:Nat→List Nat) (L:Nat) (C C':List Nat):Bool:=C.all fun k=>jb k C' || match nth I k with
 | none=>false
 | some x=>oz cY L k x 0 I
def P3 (I:List mo) (cY:Nat→List Nat) (C re:List Nat) (i:Nat) (y:mo):Bool:=C.all fun k=>jb k re || match nth I k with
 | none=>false
 | some x=>!ox x y || jb k (cY i)
def ES (cY:Nat→List Nat) (L:Nat) (W:List Nat) (j:Nat) (x:mo):Nat→List mo→Bool
 | _,[]=>true
 | i,y :: l=>(Nat.beq i j || L.testBit i || jb j (cY i) || (rY x y&&y.lo.all fun e=>jb e W))&&ES cY L W j x (i+1) l
def ET (I:List mo) (C:List Nat):Bool:=C.all fun k=>match nth I k with
 | some x=>x.n
 | none=>false
def ko (I:List mo) (N:Nat) (cY:Nat→List Nat) (cf:List (List Nat)):DT→Nat→List Nat→Nat→Option (List Nat)→Bool
 | .done,_,_,L,none=>Nat.beq L N
 | .take j C' t,n+1,C,L,none=>match nth I j,nth cf j with
  | some x,some c=>match x.dst with
   | none=>false
   | some d=>x.n&&!jb d x.lo&&(C.all fun k=>match nth I k with
     | none=>false
     | some y=>!jb d y.lo&&(match y.dst with | some e=>!Nat.beq e d | none=>true)) &&
    c.all (fun i=>L.testBit i)&&!L.testBit j&&x.pr.all (fun e=>L.testBit e)&&ET I C' &&
    zD (L ||| 2 ^ j) fun L'=>ua I cY L' (j :: C) C'&&ko I N cY cf t n C' L' none
  | _,_=>false
 | .br i re C' t more,n+1,C,L,left=>match nth I i with
  | none=>false
  | some y=>(match left with
   | none=>fun (K:List Nat→Bool)=>yy (mq L 0 I) K
   | some l=>fun K=>K l) fun l=>
    P3 I cY C re i y&&ET I C'&&jb i l&&(zD (L ||| 2 ^ i) fun L'=>ua I cY L' C C'&&ko I N cY cf t n C' L' none) &&
     ko I N cY cf more (n+1) C L (some (l.filter fun k=>!Nat.beq k i))
 | .stop,_,_,_,some l=>l.isEmpty
 | .al j W t,n+1,C,L,none=>match nth I j with
  | some x=>match x.dst with
   | none=>false
   | some _=>C.isEmpty&&x.a&&!L.testBit j&&x.pr.all (fun e=>L.testBit e)&&ES cY L W j x 0 I&&zD (L ||| 2 ^ j) fun L'=>ko I N cY cf t n [] L' none
  | none=>false
 | _,_,_,_,_=>false
def yz (E:Env) (f:FuncId) (ops:List Oper):List Nat→St→Prop
 | [],_=>True
 | k :: l,s=>(match nth ops k with
  | some ok=>Dn E f ops ok s
  | none=>True)∧yz E f ops l s
def rr (E:Env) (f:FuncId) (ops:List Oper):DT→(St→Prop)→St→Prop
 | .done,K,s=>K s
 | .take j _ t,K,s=>match nth ops j with
  | some oj=>b7 E f ops oj (rr E f ops t K) s
  | none=>False
 | .br i re _ t more,K,s=>(match nth ops i with
  | some oi=>b7 E f ops oi (fun s'=>yz E f ops re s'∧rr E f ops t K s') s
  | none=>False)∧rr E f ops more K s
 | .stop,_,_=>True
 | .al j W t,K,s=>match nth ops j with
  | some oj=>Rw E f oj W s=true∧b7 E f ops oj (rr E f ops t K) s
  | none=>False
def Io (l:List (List Nat)) (i:Nat):List Nat:=match nth l i with
 | some a=>a
 | none=>[]
section
variable {E:Env} {s t:St} {f:FuncId} {ops:Array Oper} {K:St→Prop} {cY:Nat→List Nat}
theorem ea {x:Nat}:∀ {l:List Nat},jb x l=true↔x∈l
 | []=>by simp [jb]
 | y :: l=>by simp [jb,ea (l:=l)]
theorem mr {α:Type} (n:Nat) (K:Nat→α):zD n K=K n:=by cases n <;> rfl
theorem vt {α:Type}:∀ (l:List Nat) (K:List Nat→α),yy l K=K l
 | [],_=>rfl
 | a :: l,K=>by simp only [yy,mr]; rw [vt]
theorem LV {α:Type} (i:mo) (K:mo→α):Rx i K=K i:=by
 obtain ⟨d,lo,pr,n,r,a⟩:=i
 cases d <;> cases n <;> cases r <;> cases a <;> simp [Rx,vt,mr]
theorem Bu {α:Type}:∀ (l:List mo) (K:List mo→α),ER l K=K l
 | [],_=>rfl
 | a :: l,K=>by simp only [ER,LV]; rw [Bu]
def jR (ops:Array Oper):List mo:=ops.toList.map (jQ ops)
theorem qI {k:Nat} {x:mo} (h:nth (jR ops) k=some x):∃ o,ops[k]?=some o∧x=jQ ops o:=by
 rw [aX,jR,List.getElem?_map,Array.getElem?_toList] at h
 cases ho:ops[k]? with
 | none=>rw [ho] at h; cases h
 | some o=>rw [ho] at h; exact ⟨o,rfl,by simpa using h.symm⟩
theorem ij {e:Nat}:∀ {l:List Edge},e∈ow l↔∃ ed∈l,Region.binds .any ed=true∧ed.on=e
 | []=>by simp [ow]
 | x :: l=>by
  unfold ow
  cases hb:Region.binds .any x with
  | true=>
   simp only [cond_true,List.mem_cons,ij (l:=l),exists_eq_or_imp,hb,true_and]
   constructor
   ·rintro (h | h)
    ·exact .inl h.symm
    ·exact .inr h
   ·rintro (h | h)
    ·exact .inl h.symm
    ·exact .inr h
  | false=>simp only [cond_false,List.mem_cons,ij (l:=l),exists_eq_or_imp,hb,false_and,false_or,Bool.false_eq_true]
theorem yA {x y:Oper} (h:rY (jQ ops x) (jQ ops y)=true):x.apart ops y=true:=by
 have hm:∀ (d:Nat) (l:List Nat),jb d l=false→l.contains d=false:=fun d l h=>by
  cases hc:l.contains d with
  | false=>rfl
  | true=>rw [ea.2 (by simpa using hc)] at h; cases h
 unfold rY at h
 unfold Oper.apart
 simp only [jQ,Bool.and_eq_true] at h ⊢
 refine ⟨?_,?_⟩
 ·cases hx:x.dst with
  | none=>rfl
  | some d=>
   rw [hx] at h
   simp only [Bool.and_eq_true,Bool.not_eq_true'] at h ⊢
   refine ⟨hm _ _ h.1.1,?_⟩
   have h2:=h.1.2
   cases hy:y.dst with
   | none=>rfl
   | some e=>
    rw [hy] at h2
    simp only [Bool.not_eq_true'] at h2
    have:e≠d:=fun k=>by rw [k,qg] at h2; cases h2
    simpa using this
 ·cases hy:y.dst with
  | none=>rfl
  | some d=>
   rw [hy] at h
   simp only [Bool.not_eq_true'] at h ⊢
   exact hm _ _ h.2
def Bv (ops:Array Oper) (L:Nat) (listed:Array Bool):Prop:=listed.size=ops.size∧∀ i,i < ops.size→listed[i]?=some (L.testBit i)
theorem Bv.add {L:Nat} {listed:Array Bool} (h:Bv ops L listed) (j:Nat):Bv ops (L ||| 2 ^ j) (listed.setIfInBounds j true):=by
 refine ⟨by simp [h.1],fun i hi=>?_⟩
 rw [Nat.testBit_or,Nat.testBit_two_pow]
 by_cases e:j=i
 ·subst e
  rw [Array.getElem?_setIfInBounds_self_of_lt (by rw [h.1]; exact hi)]
  simp
 ·rw [Array.getElem?_setIfInBounds_ne e,h.2 i hi]
  simp [e]
theorem Bv.Bw {L:Nat} {listed:Array Bool} (h:Bv ops L listed) {i:Nat} (hi:i < ops.size) (b:Bool):listed.getD i b=L.testBit i:=by
 rw [Array.getD_eq_getD_getElem?,h.2 i hi]; rfl
theorem pI {L:Nat} {listed:Array Bool} (h:Bv ops L listed) {j:Nat} {o:Oper} (ho:ops[j]?=some o) (h1:L.testBit j=false) (h2:((jQ ops o).pr.all fun e=>L.testBit e)=true)
  (bM:∀ e∈o.after,Region.binds .any e=true→e.on < ops.size):j∈Region.ready .any ops listed:=by
 have hj:j < ops.size:=(Array.getElem?_eq_some_iff.1 ho).1
 refine mem_ready.2 ⟨by rw [h.Bw hj]; exact h1,o,ho,fun e he hb=>?_⟩
 rw [h.Bw (bM e he hb)]
 exact List.all_eq_true.1 h2 e.on (ij.2 ⟨e,by simpa using he,hb,rfl⟩)
def Ry (n:Nat) (I:List mo):Bool:=I.all fun x=>x.pr.all fun e=>Nat.blt e n
theorem fU {k:Nat} {o:Oper} (h:ops[k]?=some o):nth (jR ops) k=some (jQ ops o):=by
 rw [aX,jR,List.getElem?_map,Array.getElem?_toList,h]; rfl
theorem jS {k:Nat} {o:Oper} (h:ops[k]?=some o):(jR ops)[k]?=some (jQ ops o):=by
 rw [← aX]; exact fU h
theorem oA (h:Ry ops.size (jR ops)=true) {k:Nat} {o:Oper} (ho:ops[k]?=some o):∀ e∈o.after,Region.binds .any e=true→e.on < ops.size:=fun e he hb=>by
 have h1:=List.all_eq_true.1 h (jQ ops o) (List.mem_of_getElem? (jS ho))
 have h2:=List.all_eq_true.1 h1 e.on (ij.2 ⟨e,by simpa using he,hb,rfl⟩)
 exact Nat.le_of_ble_eq_true h2
theorem vu {j:Nat} {x:mo} {c:List Nat}:∀ {l:List mo} {i:Nat},Bs j x c i l=true→∀ k y,l[k]?=some y→(Nat.beq (i+k) j || jb j y.pr || jb (i+k) c || rY x y)=true
 | [],_,_,k,y,hk=>by simp at hk
 | z :: l,i,h,k,y,hk=>by
  unfold Bs at h
  rw [Bool.and_eq_true] at h
  cases k with
  | zero=>simp at hk; subst hk; exact h.1
  | succ k=>
   have:=vu h.2 k y (by simpa using hk)
   rw [show i+1+k=i+(k+1) by omega] at this
   exact this
theorem vv {I:List mo}:∀ {l:List mo} {j:Nat} {cs:List (List Nat)},Bt I j l cs=true→∀ k x c,l[k]?=some x→cs[k]?=some c→x.n=true→Bs (j+k) x c 0 I=true
 | [],_,_,_,k,x,c,hk,_,_=>by simp at hk
 | z :: l,j,[],_,k,x,c,_,hc,_=>by simp at hc
 | z :: l,j,d :: cs,h,k,x,c,hk,hc,hn=>by
  unfold Bt at h
  rw [Bool.and_eq_true] at h
  cases k with
  | zero=>
   simp at hk hc
   subst hk hc
   have:=h.1
   rw [hn] at this
   simpa using this
  | succ k=>
   have:=vv h.2 k x c (by simpa using hk) (by simpa using hc) hn
   rw [show j+1+k=j+(k+1) by omega] at this
   exact this
theorem s5:∀ {l:List mo} {i:Nat},vr cY i l=true→∀ k x,l[k]?=some x→∀ a∈cY (i+k),∃ e∈x.pr,e=a∨a∈cY e
 | [],_,_,k,x,hk=>by simp at hk
 | z :: l,i,h,k,x,hk=>by
  unfold vr at h
  rw [Bool.and_eq_true] at h
  cases k with
  | zero=>
   simp at hk
   subst hk
   intro a ha
   have h1:=List.all_eq_true.1 h.1 a ha
   obtain ⟨e,he,h2⟩:=List.any_eq_true.1 h1
   rw [Bool.or_eq_true] at h2
   refine ⟨e,he,?_⟩
   rcases h2 with h2 | h2
   ·exact .inl (Nat.eq_of_beq_eq_true h2)
   ·exact .inr (ea.1 h2)
  | succ k=>
   have:=s5 h.2 k x (by simpa using hk)
   rw [show i+1+k=i+(k+1) by omega] at this
   exact this
theorem Dv (h:vr cY 0 (jR ops)=true):yx ops cY:=fun i oi a hi ha=>by
 have h1:=s5 h i _ (jS hi) a (by rw [Nat.zero_add]; exact ha)
 obtain ⟨e,he,h2⟩:=h1
 obtain ⟨ed,q1,q2,rfl⟩:=ij.1 he
 exact ⟨ed,by simpa using q1,q2,h2⟩
theorem nB {L:Nat}:∀ {l:List mo} {i k:Nat},k∈mq L i l↔∃ j x,k=i+j∧l[j]?=some x∧L.testBit k=false∧(x.pr.all fun e=>L.testBit e)=true
 | [],i,k=>by simp [mq]
 | z :: l,i,k=>by
  have ih:=nB (L:=L) (l:=l) (i:=i+1) (k:=k)
  have rest:(∃ j x,k=i+1+j∧l[j]?=some x∧L.testBit k=false∧(x.pr.all fun e=>L.testBit e)=true)↔∃ j x,k=i+(j+1)∧(z :: l)[j+1]?=some x∧L.testBit k=false∧(x.pr.all fun e=>L.testBit e)=true:=by
   constructor
   ·rintro ⟨j,x,h1,h2⟩; exact ⟨j,x,by omega,by simpa using h2⟩
   ·rintro ⟨j,x,h1,h2⟩; exact ⟨j,x,by omega,by simpa using h2⟩
  unfold mq
  cases hc:(!L.testBit i&&z.pr.all fun e=>L.testBit e) with
  | true=>
   simp only [cond_true,List.mem_cons,ih,rest]
   rw [Bool.and_eq_true,Bool.not_eq_true'] at hc
   constructor
   ·rintro (rfl | ⟨j,x,h⟩)
    ·exact ⟨0,z,rfl,rfl,hc⟩
    ·exact ⟨j+1,x,h⟩
   ·rintro ⟨j,x,h1,h2⟩
    cases j with
    | zero=>exact .inl h1
    | succ j=>exact .inr ⟨j,x,h1,h2⟩
  | false=>
   simp only [cond_false,ih,rest]
   constructor
   ·rintro ⟨j,x,h⟩; exact ⟨j+1,x,h⟩
   ·rintro ⟨j,x,h1,h2,h3,h4⟩
    cases j with
    | zero=>
     simp at h2 h1
     subst h1 h2
     rw [h3,h4] at hc
     cases hc
    | succ j=>exact ⟨j,x,h1,h2,h3,h4⟩
theorem nC {L k:Nat} {x:mo}:∀ {l:List mo} {i:Nat},oz cY L k x i l=true→∀ j y,l[j]?=some y→L.testBit (i+j)=false→ox x y=true→k∈cY (i+j)
 | [],_,_,j,y,hj=>by simp at hj
 | z :: l,i,h,j,y,hj=>by
  unfold oz at h
  rw [Bool.and_eq_true] at h
  cases j with
  | zero=>
   simp at hj
   subst hj
   intro h1 h2
   have h3:=h.1
   rw [Nat.add_zero] at h1
   rw [h1,h2] at h3
   exact ea.1 (by simpa using h3)
  | succ j=>
   have:=nC h.2 j y (by simpa using hj)
   rw [show i+1+j=i+(j+1) by omega] at this
   exact this
theorem s6 {L:Nat} {listed:Array Bool} (hM:Bv ops L listed) {C C':List Nat} (h:ua (jR ops) cY L C C'=true):∀ k∈C,k∈C'∨∀ i ok oi,ops[k]?=some ok→ops[i]?=some oi→listed.getD i true=false→iH ok oi=true→k∈cY i:=fun k hk=>by
 have h1:=List.all_eq_true.1 h k hk
 rw [Bool.or_eq_true] at h1
 rcases h1 with h1 | h1
 ·exact .inl (ea.1 h1)
 ·refine .inr fun i ok oi q1 q2 q3 q4=>?_
  rw [fU q1] at h1
  have hi:i < ops.size:=(Array.getElem?_eq_some_iff.1 q2).1
  have:=nC h1 i _ (jS q2) (by rw [Nat.zero_add,← hM.Bw hi]; exact q3) q4
  rw [Nat.zero_add] at this
  exact this
theorem yB {C:List Nat} (h:ET (jR ops) C=true):NC ops C:=fun k hk ok dY=>by
 have:=List.all_eq_true.1 h k hk
 rw [fU dY] at this
 exact this
theorem vw {L j:Nat} {x:mo} {W:List Nat}:∀ {l:List mo} {i:Nat},ES cY L W j x i l=true→∀ k y,l[k]?=some y→(Nat.beq (i+k) j || L.testBit (i+k) || jb j (cY (i+k)) || (rY x y&&y.lo.all fun e=>jb e W))=true
 | [],_,_,k,y,hk=>by simp at hk
 | z :: l,i,h,k,y,hk=>by
  unfold ES at h
  rw [Bool.and_eq_true] at h
  cases k with
  | zero=>simp at hk; subst hk; exact h.1
  | succ k=>
   have:=vw h.2 k y (by simpa using hk)
   rw [show i+1+k=i+(k+1) by omega] at this
   exact this
theorem vx {d:Nat} {s:a8}:∀ {l:List Nat},EQ d s l=true→∀ e∈l,∀ off,lk s e≠.lp d off
 | [],_,e,he,_=>by cases he
 | a :: l,h,e,he,off=>by
  unfold EQ at h
  rw [Bool.and_eq_true] at h
  rcases List.mem_cons.1 he with rfl | he
  ·intro hv
   have h1:=h.1
   rw [hv] at h1
   simp only [qg] at h1
   cases h1
  ·exact vx h.2 e he off
theorem nD {cf:List (List Nat)} (hA:yx ops cY) (hP:Ry ops.size (jR ops)=true) (hF:Bt (jR ops) 0 (jR ops) cf=true) (hK:Inv K):∀ (T:DT) (n:Nat) (C:List Nat) (listed:Array Bool) (L:Nat),NC ops C→mn cY listed→Bv ops L listed →
  (ko (jR ops) (2 ^ ops.size - 1) cY cf T n C L none=true→∀ s,rr E f ops.toList T K s→eP E f ops cY C K n listed s) ∧
  (∀ m l,n=m+1→ko (jR ops) (2 ^ ops.size - 1) cY cf T n C L (some l)=true→∀ s,rr E f ops.toList T K s→∀ i∈l,i∈Region.ready .any ops listed→∀ oi,ops[i]?=some oi →
   b7 E f ops.toList oi (fun s'=>Gl E f ops cY C i s'∧eP E f ops cY C K m (listed.setIfInBounds i true) s') s)
 | .done,n,C,listed,L,hC,iG,hM=>by
  refine ⟨fun h s hs=>?_,fun m l _ h=>by simp [ko] at h⟩
  have hL:L=2 ^ ops.size - 1:=Nat.eq_of_beq_eq_true (by simpa only [ko] using h)
  have hr:Region.ready .any ops listed=[]:=by
   apply List.eq_nil_iff_forall_not_mem.2
   intro j hj
   obtain ⟨h1,o,ho,_⟩:=mem_ready.1 hj
   have bM:j < ops.size:=(Array.getElem?_eq_some_iff.1 ho).1
   rw [hM.Bw bM,hL,Nat.testBit_two_pow_sub_one] at h1
   simp [bM] at h1
  cases n with
  | zero=>exact ⟨hr,hs⟩
  | succ n=>exact ⟨fun _=>hs,fun i hi=>by rw [hr] at hi; simp at hi⟩
 | .stop,n,C,listed,L,hC,iG,hM=>by
  refine ⟨fun h=>by cases n <;> simp [ko] at h,fun m l e h s _ i hi=>?_⟩
  subst e
  have:l=[]:=by simpa [ko] using h
  rw [this] at hi
  simp at hi
 | .al j W T,0,C,listed,L,hC,iG,hM=>⟨fun h=>by simp [ko] at h,fun m l e=>by cases e⟩
 | .al j W T,n+1,C,listed,L,hC,iG,hM=>by
  refine ⟨fun h s hs=>?_,fun m l _ h=>by simp [ko] at h⟩
  unfold ko at h
  split at h
  ·rename_i x hx
   obtain ⟨oj,hj,rfl⟩:=qI hx
   split at h
   ·cases h
   ·rename_i d hd
    simp only [mr,Bool.and_eq_true] at h
    obtain ⟨⟨⟨⟨⟨Zh,tM⟩,hbit⟩,VX⟩,uL⟩,hT⟩:=h
    have Zh:C=[]:=by simpa using Zh
    subst Zh
    have tM:bR oj.op=true:=tM
    have hd:oj.dst=some d:=hd
    have vy:j∈Region.ready .any ops listed:=pI hM hj (by simpa using hbit) VX (oA hP hj)
    obtain ⟨ih,_⟩:=nD hA hP hF hK T n [] (listed.setIfInBounds j true) (L ||| 2 ^ j) (fun k hk=>by cases hk) (iG.add hA vy) (hM.add j)
    unfold rr at hs
    rw [aX,Array.getElem?_toList,hj] at hs
    simp only at hs
    obtain ⟨dY,hs⟩:=hs
    unfold Rw at dY
    split at dY
    ·rename_i _ d' hg Es
     rw [hd] at Es
     cases Es
     rw [Bool.and_eq_true] at dY
     have Rv:E.xl f d=false:=by simpa using dY.1
     have QW:b7 E f ops.toList oj (eP E f ops cY [] K n (listed.setIfInBounds j true)) s:=b8 hs fun s' h'=>ih hT s' h'
     unfold b7 at QW
     rw [hg] at QW
     obtain ⟨s1,q1,q2⟩:=(EO tM).1 QW
     refine Im hA hK hj hg hd tM Rv n listed s s1 iG (fun i oi hi cA Ik rQ=>?_) vy q1 q2
     have fa:=vw uL i _ (jS hi)
     rw [Nat.zero_add] at fa
     simp only [Bool.or_eq_true] at fa
     have Rz:i < ops.size:=(Array.getElem?_eq_some_iff.1 hi).1
     rcases fa with ((h1 | h1) | h1) | h1
     ·exact absurd (Nat.eq_of_beq_eq_true h1) cA
     ·rw [hM.Bw Rz,h1] at Ik; cases Ik
     ·exact absurd (ea.1 h1) rQ
     ·rw [Bool.and_eq_true] at h1
      exact ⟨yA h1.1,fun e he off=>vx dY.2 e (ea.1 (List.all_eq_true.1 h1.2 e he)) off⟩
    ·cases dY
  ·cases h
 | .take j C' T,0,C,listed,L,hC,iG,hM=>⟨fun h=>by simp [ko] at h,fun m l e=>by cases e⟩
 | .take j C' T,n+1,C,listed,L,hC,iG,hM=>by
  refine ⟨fun h s hs=>?_,fun m l _ h=>by simp [ko] at h⟩
  unfold ko at h
  split at h
  ·rename_i x c hx hc
   obtain ⟨oj,hj,rfl⟩:=qI hx
   split at h
   ·cases h
   ·rename_i d hd
    simp only [mr,Bool.and_eq_true] at h
    obtain ⟨⟨⟨⟨⟨⟨⟨hN,Bp⟩,Zd⟩,hcf⟩,hbit⟩,VX⟩,mO⟩,RA,hT⟩:=h
    have hN:rq oj.op=true:=hN
    have hd:oj.dst=some d:=hd
    have vy:j∈Region.ready .any ops listed:=pI hM hj (by simpa using hbit) VX (oA hP hj)
    have UD:∀ {d:Nat} {l:List Nat},(!jb d l)=true→d∉l:=fun h hm=>by rw [ea.2 hm] at h; cases h
    have RB:d∉oj.looksAt ops:=UD Bp
    have Zi:∀ k∈C,∀ ok,ops[k]?=some ok→d∉ok.looksAt ops∧ok.dst≠some d:=fun k hk ok dY=>by
     have:=List.all_eq_true.1 Zd k hk
     rw [fU dY] at this
     simp only [Bool.and_eq_true] at this
     refine ⟨UD this.1,fun e=>?_⟩
     have h2:=this.2
     simp only [jQ,e,qg] at h2
     cases h2
    have Lm:NC ops (j :: C):=fun k hk ok ho=>by
     rcases List.mem_cons.1 hk with rfl | hk
     ·rw [hj] at ho; cases ho; exact hN
     ·exact hC k hk ok ho
    have Zj:=iG.add hA vy
    obtain ⟨ih,_⟩:=nD hA hP hF hK T n C' (listed.setIfInBounds j true) (L ||| 2 ^ j) (yB mO) Zj (hM.add j)
    unfold rr at hs
    rw [aX,Array.getElem?_toList,hj] at hs
    simp only at hs
    have QW:b7 E f ops.toList oj (eP E f ops cY (j :: C) K n (listed.setIfInBounds j true)) s:=b8 hs fun s' h'=>mm n _ _ (s6 (hM.add j) RA) (ih hT s' h')
    obtain ⟨x,qj,hk⟩:=vn hN (gz Lm hK _ _) QW
    rw [hd] at hk
    refine Du hA hC hK hj hN hd RB Zi n listed s x iG (fun i oi hi cA Ik rQ=>?_) vy qj hk
    have uL:=vv hF j _ c (jS hj) (by rw [← aX]; exact hc) hN
    have fa:=vu uL i _ (jS hi)
    rw [Nat.zero_add,Nat.zero_add] at fa
    simp only [Bool.or_eq_true] at fa
    have Rz:i < ops.size:=(Array.getElem?_eq_some_iff.1 hi).1
    rcases fa with ((h1 | h1) | h1) | h1
    ·exact absurd (Nat.eq_of_beq_eq_true h1) cA
    ·obtain ⟨e,q1,q2,q3⟩:=ij.1 (ea.1 h1)
     exact absurd q3 (rQ e (by simpa using q1) q2)
    ·have:=List.all_eq_true.1 hcf i (ea.1 h1)
     rw [hM.Bw Rz,this] at Ik
     cases Ik
    ·exact yA h1
  ·cases h
 | .br i re C' T more,0,C,listed,L,hC,iG,hM=>⟨fun h=>by simp [ko] at h,fun m l e=>by cases e⟩
 | .br i re C' T more,n+1,C,listed,L,hC,iG,hM=>by
  have main:∀ left l,(match left with | none=>mq L 0 (jR ops) | some l=>l)=l→ko (jR ops) (2 ^ ops.size - 1) cY cf (.br i re C' T more) (n+1) C L left=true→∀ s,rr E f ops.toList (.br i re C' T more) K s→i∈l∧∀ k∈l,k∈Region.ready .any ops listed→∀ ok,ops[k]?=some ok →
    b7 E f ops.toList ok (fun s'=>Gl E f ops cY C k s'∧eP E f ops cY C K n (listed.setIfInBounds k true) s') s:=by
   intro left l hl h s hs
   unfold ko at h
   split at h
   ·cases h
   ·rename_i y hy
    obtain ⟨oi,qH,rfl⟩:=qI hy
    have h:(P3 (jR ops) cY C re i (jQ ops oi)&&ET (jR ops) C'&&jb i l&&(ua (jR ops) cY (L ||| 2 ^ i) C C'&&ko (jR ops) (2 ^ ops.size - 1) cY cf T n C' (L ||| 2 ^ i) none) &&
     ko (jR ops) (2 ^ ops.size - 1) cY cf more (n+1) C L (some (l.filter fun k=>!Nat.beq k i)))=true:=by
     cases left with
     | none=>simp only at hl; subst hl; simp only [vt,mr] at h; exact h
     | some l'=>simp only at hl; subst hl; simp only [mr] at h; exact h
    simp only [Bool.and_eq_true] at h
    obtain ⟨⟨⟨⟨Vv,mO⟩,oO⟩,RA,hT⟩,hmore⟩:=h
    unfold rr at hs
    refine ⟨ea.1 oO,fun k hk X6 ok dY=>?_⟩
    by_cases e:k=i
    ·subst e
     rw [qH] at dY
     cases dY
     obtain ⟨ih,_⟩:=nD hA hP hF hK T n C' (listed.setIfInBounds k true) (L ||| 2 ^ k) (yB mO) (iG.add hA X6) (hM.add k)
     have h1:=hs.1
     rw [aX,Array.getElem?_toList,qH] at h1
     refine b8 h1 fun s' h'=>⟨fun c hc oc P2 q1 q2 q3 q4=>?_,mm n _ _ (s6 (hM.add k) RA) (ih hT s' h'.2)⟩
     rw [qH] at q2
     cases q2
     have uZ:=List.all_eq_true.1 Vv c hc
     rw [fU q1] at uZ
     have q3':ox (jQ ops oc) (jQ ops oi)=true:=q3
     simp only [q3',Bool.not_true,Bool.false_or,Bool.or_eq_true] at uZ
     rcases uZ with uZ | uZ
     ·have hm:c∈re:=ea.1 uZ
      have:∀ (re:List Nat),c∈re→yz E f ops.toList re s'→Dn E f ops.toList oc s':=by
       intro re
       induction re with
       | nil=>intro hm; simp at hm
       | cons a re ihr=>
        intro hm ha
        rcases List.mem_cons.1 hm with rfl | hm
        ·have:=ha.1
         rw [aX,Array.getElem?_toList,q1] at this
         exact this
        ·exact ihr hm ha.2
      exact this re hm h'.1
     ·exact absurd (ea.1 uZ) q4
    ·obtain ⟨_,ih⟩:=nD hA hP hF hK more (n+1) C listed L hC iG hM
     refine ih n _ rfl hmore s hs.2 k ?_ X6 ok dY
     rw [List.mem_filter]
     exact ⟨hk,by rw [lV e]; rfl⟩
  refine ⟨fun h s hs=>?_,fun m l e h s hs k hk X6 ok dY=>?_⟩
  ·obtain ⟨m1,m2⟩:=main none _ rfl h s hs
   have back:∀ k,k∈mq L 0 (jR ops)→k∈Region.ready .any ops listed:=fun k hk=>by
    obtain ⟨j,x,q1,q2,q3,q4⟩:=nB.1 hk
    rw [Nat.zero_add] at q1
    subst q1
    rw [← aX] at q2
    obtain ⟨o,ho,rfl⟩:=qI q2
    exact pI hM ho q3 q4 (oA hP ho)
   have VY:∀ k,k∈Region.ready .any ops listed→k∈mq L 0 (jR ops):=fun k hk=>by
    obtain ⟨h1,o,ho,mO⟩:=mem_ready.1 hk
    have bM:k < ops.size:=(Array.getElem?_eq_some_iff.1 ho).1
    refine nB.2 ⟨k,jQ ops o,by omega,jS ho,by rw [← hM.Bw bM]; exact h1,List.all_eq_true.2 fun e he=>?_⟩
    obtain ⟨ed,q1,q2,rfl⟩:=ij.1 he
    have h2:=mO ed (by simpa using q1) q2
    rw [hM.Bw (oA hP ho ed (by simpa using q1) q2)] at h2
    exact h2
   refine ⟨fun h0=>?_,fun k hk ok dY=>m2 k (VY k hk) hk ok dY⟩
   have:=back i m1
   rw [h0] at this
   simp at this
  ·cases e
   exact (main (some l) l rfl h s hs).2 k hk X6 ok dY
theorem vz {R:ak} {w:World} {β:Nat→Nat} {F:Fence} {Qc:Exit→Act→World→Prop} {C:List Nat} (hQ:∀ a' w',nw E R w β s K a' w'→Qc .normal a' w') :
  ∀ (n:Nat) (listed:Array Bool) (R1:ak) (w1:World) (β1:Nat→Nat) (s1:St) (a1:Act),bg E R1 w1 β1 s1 a1→Step R w β s.boxes R1 w1 β1 s1.boxes→s1.ro=s.ro→bQ R1 s1.ro F →
   eP E f ops cY C K n listed s1→wpAnyIn F 0 E.P .any ops Qc n listed a1 w1
 | 0,listed,R1,w1,β1,s1,a1,hr,kn,bP,_,ha=>⟨ha.1,hQ _ _ ⟨s1,R1,β1,ha.2,hr,kn,bP⟩⟩
 | n+1,listed,R1,w1,β1,s1,a1,hr,kn,bP,hf,ha=>by
  refine ⟨fun h0=>hQ _ _ ⟨s1,R1,β1,ha.1 h0,hr,kn,bP⟩,fun i hi=>?_⟩
  obtain ⟨_,o,ho,_⟩:=mem_ready.1 hi
  unfold wpOpIn
  simp only [ho]
  refine qC hr hf (ha.2 i hi o ho) _ ?_
  rintro a' w' ⟨s',R',β',q1,q2,q3,q4⟩
  exact vz hQ n _ R' w' β' s' a' q2 (kn.trans q3) (q4.trans bP) (by rw [q4]; exact hf.mono q3.ext) q1.2
theorem eK {K':St→Prop} (hK:∀ s,K s→K' s):∀ (T:DT) (s:St),rr E f ops.toList T K s→rr E f ops.toList T K' s
 | .done,s,h=>hK s h
 | .stop,_,_=>trivial
 | .take j C T,s,h=>by
  unfold rr at h ⊢
  split
  ·rename_i oj hj
   rw [hj] at h
   exact b8 h fun s' h'=>eK hK T s' h'
  ·rename_i hj
   rw [hj] at h
   exact h
 | .al j W T,s,h=>by
  unfold rr at h ⊢
  split
  ·rename_i oj hj
   rw [hj] at h
   exact ⟨h.1,b8 h.2 fun s' h'=>eK hK T s' h'⟩
  ·rename_i hj
   rw [hj] at h
   exact h
 | .br i re C T more,s,h=>by
  unfold rr at h ⊢
  refine ⟨?_,eK hK more s h.2⟩
  have h:=h.1
  split
  ·rename_i oj hj
   rw [hj] at h
   exact b8 h fun s' h'=>⟨h'.1,eK hK T s' h'.2⟩
  ·rename_i hj
   rw [hj] at h
   exact h
structure af where
 cY:List (List Nat)
 cf:List (List Nat)
 T:DT
def Dw (ops:Array Oper) (p:af):Bool:=ER (ops.toList.map (jQ ops)) fun I=>
 zD ops.size fun n=>zD (2 ^ n - 1) fun N=>vr (Io p.cY) 0 I&&Ry n I&&Bt I 0 I p.cf&&ko I N (Io p.cY) p.cf p.T n [] 0 none
theorem bg.drawn {R:ak} {w:World} {β:Nat→Nat} {a:Act} (h:bg E R w β s a):bg E R { w with drawn:=w.drawn+1 } β s a∧Step R w β s.boxes R { w with drawn:=w.drawn+1 } β s.boxes:=by
 have e:Ext R w R { w with drawn:=w.drawn+1 }:=⟨fun _ _ h=>h,fun _ _ _=>rfl,fun _ ro h=>⟨ro,h,ck.refl ro⟩,fJ.refl w⟩
 refine ⟨⟨⟨h.g.len,fun id go ro h1 h2=>(h.g.obj id go ro h1 h2).mono e (fun _ _=>rfl) (fun _ _ _ h=>h),h.g.inj,h.g.wf,fun g cs hg=>(h.g.bY g cs hg).mono e,Nat.le_succ_of_le h.g.lo⟩,?_,h.t.mono e,h.n,h.d⟩,?_⟩
 ·exact h.b.bp e (fun _ _ _=>rfl) (fun _ _ _ _ h=>h) (fun _ _ _ h=>h)
 ·exact ⟨e,rfl,rfl,rfl,Nat.le_refl _,fun _ _ _=>rfl,fun _ _ h=>h,fun _ _ h _ _=>h⟩
theorem fb.draw {id:Nat} {p:af} {Q:Exit→St→Prop} (dY:Dw ops p=true) (h:rr E f ops.toList p.T (Q .normal) s):fb E (.region id ops true) Q s:=fun R w β a F hr hf=>by
 simp only [Dw,Bu,mr,Bool.and_eq_true] at dY
 obtain ⟨⟨⟨hA,hP⟩,hF⟩,hT⟩:=dY
 refine wpIn_region_any E.mixed ?_
 obtain ⟨q1,q2⟩:=hr.drawn
 have hK:Inv (fun s=>∃ u,ou u s∧Q .normal u):=fun s t e ⟨u,h1,h2⟩=>⟨u,h1.trans e,h2⟩
 have h':=eK (K':=fun s=>∃ u,ou u s∧Q .normal u) (fun s h=>⟨s,ou.refl s,h⟩) p.T s h
 have iG:mn (Io p.cY) (Array.replicate ops.size false):=fun i hi=>by
  rw [Array.getD_eq_getD_getElem?,Array.getElem?_replicate] at hi
  split at hi <;> cases hi
 have RC:=(nD (E:=E) (f:=f) (Dv hA) hP hF hK p.T ops.size [] (Array.replicate ops.size false) 0 (fun k hk=>by simp at hk) iG ⟨by simp,fun i hi=>by simp [hi]⟩).1 hT s h'
 refine vz (R:=R) (w:=w) (β:=β) (s:=s) (f:=f) (K:=fun s=>∃ u,ou u s∧Q .normal u) ?_ _ _ R _ β s a q1 q2 rfl hf RC
 rintro a' w' ⟨s',R',β',⟨u,e,hu⟩,h2,h3,h4⟩
 exact ⟨u,R',β',hu,h2.eqv e.symm,h3.eqv rfl e.symm.b,e.ro.trans h4⟩
end
end Go.Am
