/- The abstract machine: regions whose order the tape draws,along a tree of choices that was checked. -/
import Derived.Test.YtldcljfjjoidhaaGreatDoorAmKG
set_option linter.all false
namespace Go.Am
open Go
section
variable {E:Env} {s t:St} {f:FuncId} {ops:Array Oper} {o oj oi:Oper} {d:Tmp} {x:SV} {K K':St→Prop} {cj:Nat→List Nat} {C:List Nat}
def Bv (E:Env) (f:FuncId) (ops:Array Oper) (cj:Nat→List Nat) (C:List Nat) (i:Nat) (s:St):Prop:=
 ∀ j∈C,∀ oj oi,ops[j]?=some oj→ops[i]?=some oi→fO oj oi=true→j∉cj i→yY E f ops.toList oj s
def NC (ops:Array Oper) (C:List Nat):Prop:=∀ j∈C,∀ oj,ops[j]?=some oj→n5 oj.op=true
theorem lq {i:Nat} (hC:NC ops C):Inv (Bv E f ops cj C i):=fun _ _ e h j hj oj oi h1 h2 h3 h4=>Fz (hC j hj oj h1) e (h j hj oj oi h1 h2 h3 h4)
def dG (E:Env) (f:FuncId) (ops:Array Oper) (cj:Nat→List Nat) (C:List Nat) (K:St→Prop):Nat→Array Bool→St→Prop
 | 0,listed,s=>Region.ready .any ops listed=[]∧K s
 | n+1,listed,s=>(Region.ready .any ops listed=[]→K s) ∧
   ∀ i∈Region.ready .any ops listed,∀ oi,ops[i]?=some oi→bw E f ops.toList oi (fun s'=>Bv E f ops cj C i s'∧dG E f ops cj C K n (listed.setIfInBounds i true) s') s
theorem eX (hC:NC ops C) (hK:Inv K):∀ n listed,Inv (dG E f ops cj C K n listed)
 | 0,_=>fun s t e h=>⟨h.1,hK s t e h.2⟩
 | n+1,_=>fun s t e h=>⟨fun h0=>hK s t e (h.1 h0),fun i hi oi nI=>wL (fun s t e h=>⟨lq hC s t e h.1,eX hC hK n _ s t e h.2⟩) s t e (h.2 i hi oi nI)⟩
theorem jX {C':List Nat}:∀ n (listed:Array Bool) (s:St),
  (∀ k∈C',k∈C∨∀ i ok oi,ops[k]?=some ok→ops[i]?=some oi→listed.getD i true=false→fO ok oi=true→k∈cj i) →
  dG E f ops cj C K n listed s→dG E f ops cj C' K n listed s
 | 0,_,_,_,h=>h
 | n+1,listed,s,hk,h=>⟨h.1,fun i hi oi nI=>bz (h.2 i hi oi nI) fun s' h'=>⟨fun k JY ok IE h1 h2 h3 h4=>by
   rcases hk k JY with h5 | h5
   ·exact h'.1 k h5 ok IE h1 h2 h3 h4
   ·exact absurd (h5 i ok IE h1 h2 (mem_ready.1 hi).1 h3) h4,jX n _ s' (fun k JY=>by
   rcases hk k JY with h5 | h5
   ·exact .inl h5
   ·refine .inr fun i' ok IE h1 h2 h3 h4=>h5 i' ok IE h1 h2 ?_ h4
    by_cases e:i=i'
    ·subst e; exact (mem_ready.1 hi).1
    ·rw [getD_set_ne true e] at h3; exact h3) h'.2⟩⟩
def uh (ops:Array Oper) (cj:Nat→List Nat):Prop:=∀ i oi a,ops[i]?=some oi→a∈cj i→∃ e∈oi.after,Region.binds .any e=true∧(e.on=a∨a∈cj e.on)
def jY (cj:Nat→List Nat) (listed:Array Bool):Prop:=∀ i,listed.getD i false=true→∀ a∈cj i,listed.getD a false=true
theorem jY.ready {listed:Array Bool} (h:jY cj listed) (ha:uh ops cj) {i:Nat} (hi:i∈Region.ready .any ops listed):∀ a∈cj i,listed.getD a false=true:=fun a OH=>by
 obtain ⟨_,o,ho,lI⟩:=mem_ready.1 hi
 obtain ⟨e,he,hb,h2⟩:=ha i o a ho OH
 rcases h2 with rfl | h2
 ·exact lI e he hb
 ·exact h _ (lI e he hb) a h2
theorem gf {listed:Array Bool} {i:Nat} (h:listed.getD i false=true):listed.getD i true=true:=by
 rw [Array.getD_eq_getD_getElem?] at *
 cases hl:listed[i]? with
 | none=>rw [hl] at h; cases h
 | some b=>rw [hl] at h; exact h
theorem jY.add {listed:Array Bool} (h:jY cj listed) (ha:uh ops cj) {i:Nat} (hi:i∈Region.ready .any ops listed):jY cj (listed.setIfInBounds i true):=fun k hk a OH=>by
 by_cases e:i=k
 ·subst e
  exact getD_set_true (h.ready ha hi a OH)
 ·rw [getD_set_ne false e] at hk
  exact getD_set_true (h k hk a OH)
theorem ze (hA:uh ops cj) (hC:NC ops C) (hK:Inv K) {j:Nat} (hj:ops[j]?=some oj) (hN:n5 oj.op=true) (Ak:oj.dst=some d) (wN:d∉oj.looksAt ops)
  (PD:∀ k∈C,∀ ok,ops[k]?=some ok→d∉ok.looksAt ops∧ok.dst≠some d):∀ n (listed:Array Bool) (s:St) (x:SV),jY cj listed →
   (∀ i oi,ops[i]?=some oi→i≠j→listed.getD i true=false→(∀ e∈oi.after,Region.binds .any e=true→e.on≠j)→oj.apart ops oi=true) →
   j∈Region.ready .any ops listed→rP E f ops oj s x→dG E f ops cj (j :: C) K n (listed.setIfInBounds j true) (s.put (some d) x)→dG E f ops cj C K (n+1) listed s:=by
 have E6:NC ops (j :: C):=fun k hk ok ho=>by
  rcases List.mem_cons.1 hk with rfl | hk
  ·rw [hj] at ho; cases ho; exact hN
  ·exact hC k hk ok ho
 have self:∀ n (listed:Array Bool) (s:St) (x:SV),rP E f ops oj s x→dG E f ops cj (j :: C) K n (listed.setIfInBounds j true) (s.put (some d) x)→∀ oi,ops[j]?=some oi →
   bw E f ops.toList oi (fun s'=>Bv E f ops cj C j s'∧dG E f ops cj C K n (listed.setIfInBounds j true) s') s:=fun n listed s x hx h oi nI=>by
  rw [hj] at nI
  cases nI
  refine rR hN (fun s t e h=>⟨lq hC s t e h.1,eX hC hK _ _ s t e h.2⟩) hx ?_
  rw [Ak]
  refine ⟨fun k _ ok IE _ h2 h3 _=>?_,jX n _ _ (fun k hk=>.inl (List.mem_cons_of_mem _ hk)) h⟩
  rw [hj] at h2
  cases h2
  simp [fO,wJ hN,hN] at h3
 intro n
 induction n with
 | zero=>
  intro listed s x _ _ hr hx h
  refine ⟨fun h0=>by rw [h0] at hr; simp at hr,fun i hi oi nI=>?_⟩
  by_cases e:i=j
  ·subst e; exact self 0 listed s x hx h oi nI
  ·have:=ready_mono hi e
   rw [h.1] at this
   simp at this
 | succ n ih=>
  intro listed s x gl gS hr hx h
  refine ⟨fun h0=>by rw [h0] at hr; simp at hr,fun i hi oi nI=>?_⟩
  by_cases e:i=j
  ·subst e; exact self (n+1) listed s x hx h oi nI
  ·have CX:=(mem_ready.1 hi).1
   have FD:=(mem_ready.1 hr).1
   have Ju:∀ ed∈oi.after,Region.binds .any ed=true→ed.on≠j:=fun ed he hb gJ=>by
    obtain ⟨_,o,ho,lI⟩:=mem_ready.1 hi
    rw [nI] at ho
    cases ho
    have h1:=gf (lI ed he hb)
    rw [gJ,FD] at h1
    cases h1
   have LU:=gS i oi nI e CX Ju
   have hG:=h.2 i (ready_mono hi e) oi nI
   have CY:j∉cj i:=fun hm=>by
    have h1:=gf (gl.ready hA hi j hm)
    rw [FD] at h1
    cases h1
   have OI:Inv (fun s'=>Bv E f ops cj (j :: C) i s'∧dG E f ops cj (j :: C) K n ((listed.setIfInBounds j true).setIfInBounds i true) s'):=
    fun s t e h=>⟨lq E6 s t e h.1,eX E6 hK _ _ s t e h.2⟩
   have JZ:∀ k ok,ops[k]?=some ok→k≠j→(listed.setIfInBounds i true).getD k true=false→(∀ e∈ok.after,Region.binds .any e=true→e.on≠j)→oj.apart ops ok=true:=fun k ok hk PE M3 oC=>by
    refine gS k ok hk PE ?_ oC
    by_cases e':i=k
    ·subst e'; exact CX
    ·rw [getD_set_ne true e'] at M3; exact M3
   have core:∀ {pre:aL} {preB:bK} {G:List GO},LR (bh oi.op) oi.dst pre→(n5 oi.op=true→preB=[]∧G=s.G) →
     (Bv E f ops cj (j :: C) i ((s.put (some d) x).dv pre preB G)∧dG E f ops cj (j :: C) K n ((listed.setIfInBounds j true).setIfInBounds i true) ((s.put (some d) x).dv pre preB G)) →
     Bv E f ops cj C i (s.dv pre preB G)∧dG E f ops cj C K (n+1) (listed.setIfInBounds i true) (s.dv pre preB G):=by
    intro pre preB G tv M1 hk
    obtain ⟨x',ou,ga⟩:=Bp hN Ak wN LU OI hx tv M1 hk (fun t' zf hd=>zf.1 j (List.mem_cons_self ..) oj oi hj nI hd CY)
    refine ⟨fun k JY ok IE h1 h2 h3 h4=>?_,?_⟩
    ·obtain ⟨q1,q2⟩:=PD k JY ok h1
     obtain ⟨b1,b2,b3,_⟩:=dW (s.dv pre preB G) (some d) x'
     exact Fy (hC k JY ok h1) q1 q2 (fun e he=>qw _ _ _ he) (by rw [b1]) b2 b3 (ga.1 k (List.mem_cons_of_mem _ JY) ok IE h1 h2 h3 h4)
    ·refine ih (listed.setIfInBounds i true) _ x' (gl.add hA hi) JZ (ready_mono hr (Ne.symm e)) ou ?_
     rw [Array.setIfInBounds_comm _ _ e]
     exact ga.2
   rw [dV (fun s t e h=>⟨lq hC s t e h.1,eX hC hK _ _ s t e h.2⟩)]
   obtain ⟨Fp,_,_⟩:=Oper.apart_spec LU
   have pg:∀ e∈oi.looksAt ops,lk (s.put (some d) x).ae e=lk s.ae e:=fun e he=>qw s d x fun k=>Fp d Ak (k ▸ he)
   obtain ⟨b1,b2,b3,b4,b5⟩:=dW s (some d) x
   rcases (dV OI).1 hG with ⟨h1,h2⟩ | ⟨h1,h2⟩
   ·refine .inl ⟨by rw [← gL pg]; exact h1,oI b3 b2 (by rw [b1]) (gW pg) h2 fun pre preB G hp M1 hk=>core hp (fun hh=>?_) hk⟩
    obtain ⟨q1,q2⟩:=M1 hh
    exact ⟨q1,by rw [q2,b2]⟩
   ·refine .inr ⟨by rw [← gL pg]; exact h1,?_⟩
    obtain ⟨pre,preB,G,p1,p2,p3,p4⟩:=bc.put (s:=s.put (some d) x) (t:=s) (al:=bh oi.op) (w:=false) b3 b2 oi.dst (.v dL)
    obtain ⟨q1,q2,_⟩:=p2 rfl
    rw [p3] at h2
    rw [p4]
    exact core p1 (fun _=>⟨q1,by rw [q2,b2]⟩) h2
theorem Ao {i:Nat} {s:St}:Bv E f ops cj [] i s:=fun j hj=>by cases hj
theorem J0 {y:Operand} {k off:Nat} (h:aY E s.ae y=.lp k off):∃ e,y=.tmp e∧lk s.ae e=.lp k off:=by
 cases y with
 | tmp e=>exact ⟨e,rfl,h⟩
 | const v=>simp only [aY] at h; split at h <;> cases h
 | global g=>simp only [aY] at h; split at h <;> cases h
 | func g=>cases h
theorem CZ (hA:uh ops cj) (hK:Inv K) {j:Nat} (hj:ops[j]?=some oj) (hg:oj.guard=none) (Ak:oj.dst=some d) (Bq:bh oj.op=true) (J1:E.tc f d=false):∀ n (listed:Array Bool) (s s1:St),jY cj listed →
  (∀ i oi,ops[i]?=some oi→i≠j→listed.getD i true=false→j∉cj i→oj.apart ops oi=true∧∀ e∈oi.looksAt ops,∀ off,lk s.ae e≠.lp d off) →
  j∈Region.ready .any ops listed→aj E f s oj=some (true,s1)→dG E f ops cj [] K n (listed.setIfInBounds j true) s1→dG E f ops cj [] K (n+1) listed s:=by
 have E6:NC ops []:=fun k hk=>by cases hk
 have self:∀ n (listed:Array Bool) (s s1:St),aj E f s oj=some (true,s1)→dG E f ops cj [] K n (listed.setIfInBounds j true) s1→∀ oi,ops[j]?=some oi →
   bw E f ops.toList oi (fun s'=>Bv E f ops cj [] j s'∧dG E f ops cj [] K n (listed.setIfInBounds j true) s') s:=fun n listed s s1 hx h oi nI=>by
  rw [hj] at nI
  cases nI
  unfold bw
  rw [hg]
  exact (An Bq).2 ⟨s1,hx,Ao,h⟩
 intro n
 induction n with
 | zero=>
  intro listed s s1 _ _ hr hx h
  refine ⟨fun h0=>by rw [h0] at hr; simp at hr,fun i hi oi nI=>?_⟩
  by_cases e:i=j
  ·subst e; exact self 0 listed s s1 hx h oi nI
  ·have:=ready_mono hi e
   rw [h.1] at this
   simp at this
 | succ n ih=>
  intro listed s s1 gl gS hr hx h
  refine ⟨fun h0=>by rw [h0] at hr; simp at hr,fun i hi oi nI=>?_⟩
  by_cases e:i=j
  ·subst e; exact self (n+1) listed s s1 hx h oi nI
  ·have CX:=(mem_ready.1 hi).1
   have FD:=(mem_ready.1 hr).1
   have CY:j∉cj i:=fun hm=>by
    have h1:=gf (gl.ready hA hi j hm)
    rw [FD] at h1
    cases h1
   obtain ⟨LU,oC⟩:=gS i oi nI e CX CY
   obtain ⟨Fp,bT,we⟩:=Oper.apart_spec LU
   have CW:oi.dst≠some d:=bT d Ak
   obtain ⟨_,cs,rfl,Ae⟩:=zb Bq Ak J1 hx
   have hG:=h.2 i (ready_mono hi e) oi nI
   have OI:Inv (fun s'=>Bv E f ops cj [] i s'∧dG E f ops cj [] K n ((listed.setIfInBounds j true).setIfInBounds i true) s'):=
    fun s t e h=>⟨lq E6 s t e h.1,eX E6 hK _ _ s t e h.2⟩
   have Bu:∀ y∈oi.op.operands,∀ off,aY E s.ae y≠.lp d off:=fun y hy off hv=>by
    obtain ⟨e',rfl,hv⟩:=J0 hv
    exact oC e' (jW hy) off hv
   have core:∀ {pre:aL} {preB:bK} {G:List GO},fk E s oi (s.dv pre preB G) →
     (Bv E f ops cj [] i ((mw s d cs).dv pre preB G)∧dG E f ops cj [] K n ((listed.setIfInBounds j true).setIfInBounds i true) ((mw s d cs).dv pre preB G)) →
     Bv E f ops cj [] i (s.dv pre preB G)∧dG E f ops cj [] K (n+1) (listed.setIfInBounds i true) (s.dv pre preB G):=by
    intro pre preB G FC hk
    refine ⟨Ao,?_⟩
    obtain ⟨o1,o2⟩:=Al FC
    have pg:∀ e' off,oi.dst≠some e'∨lk (s.dv pre preB G).ae e'=.lp d off→lk (s.dv pre preB G).ae e'=.lp d off→lk s.ae e'=.lp d off:=by
     intro e' off _ hv
     have hv:lk (pre++s.ae) e'=.lp d off:=hv
     rcases o1 with rfl | ⟨d',x,zW,hp,M4⟩
     ·exact hv
     ·have ou:∀ off,x≠.lp d off:=fun off c=>by
       rcases M4 d off c with ⟨y,hy,dM,ho⟩ | ⟨_,h⟩
       ·exact Bu y hy dM ho
       ·exact CW (by rw [zW,h])
      by_cases c2:d'=e'
      ·subst c2
       rcases hp with rfl | rfl
       ·simp only [List.cons_append,List.nil_append,au] at hv; exact absurd hv (ou off)
       ·simp only [List.cons_append,List.nil_append,au] at hv; exact absurd hv (ou off)
      ·rcases hp with rfl | rfl
       ·simp only [List.cons_append,List.nil_append] at hv; rwa [aC c2] at hv
       ·simp only [List.cons_append,List.nil_append] at hv
        rw [aC c2,fP] at hv
        cases hl:lk s.ae e' with
        | lp k dM=>
         rw [hl] at hv
         simp only at hv
         cases hb:Nat.beq k d' with
         | true=>rw [hb] at hv; cases hv
         | false=>rw [hb] at hv; exact hv
        | v a=>rw [hl] at hv; cases hv
        | none=>rw [hl] at hv; cases hv
    refine ih (listed.setIfInBounds i true) _ _ (gl.add hA hi) ?_ (ready_mono hr (Ne.symm e)) (Ae (s.dv pre preB G) rfl ?_) ?_
    ·intro k ok ga PE M3 PF
     have PG:listed.getD k true=false:=by
      by_cases e':i=k
      ·subst e'; exact CX
      ·rw [getD_set_ne true e'] at M3; exact M3
     obtain ⟨q1,q2⟩:=gS k ok ga PE PG PF
     exact ⟨q1,fun e' OJ off hv=>q2 e' OJ off (pg e' off (.inr hv) hv)⟩
    ·intro y hy v hv
     cases y with
     | tmp e'=>
      have zW:oi.dst≠some e':=fun c=>we e' c (jW hy)
      have hv:lk s.ae e'=.v v:=hv
      show lk (pre++s.ae) e'=.v v
      rcases o1 with rfl | ⟨d',x,MU,hp,_⟩
      ·exact hv
      ·have c2:d'≠e':=fun c=>zW (by rw [MU,c])
       rcases hp with rfl | rfl
       ·simp only [List.cons_append,List.nil_append]; rw [aC c2]; exact hv
       ·simp only [List.cons_append,List.nil_append]
        rw [aC c2,rT (fun off=>by rw [hv]; intro c; cases c)]; exact hv
     | const _=>exact hv
     | global _=>exact hv
     | func _=>exact hv
    ·rw [Array.setIfInBounds_comm _ _ e]
     exact eX E6 hK _ _ _ _ (Bt cs FC CW Bu) hk.2
   have uX:∀ e'∈oi.looksAt ops,lk (mw s d cs).ae e'=lk s.ae e':=fun e' OJ=>by
    have c1:d≠e':=fun c=>Fp d Ak (c ▸ OJ)
    show lk (.put d (.lp d 0) :: .kill d :: s.ae) e'=_
    rw [aC c1,rT (oC e' OJ)]
   have yw:∀ k off,(∃ y∈oi.op.operands,aY E (mw s d cs).ae y=.lp k off)→cz (mw s d cs).boxes k=cz s.boxes k:=by
    rintro k off ⟨y,hy,hv⟩
    rw [gW uX y hy] at hv
    have EW:d≠k:=fun c=>Bu y hy off (by rw [c]; exact hv)
    show cz ((d,cs) :: s.boxes) k=cz s.boxes k
    simp only [cz]
    cases hb:Nat.beq d k with
    | true=>exact absurd (Nat.eq_of_beq_eq_true hb) EW
    | false=>rfl
   rw [dV (fun s t e h=>⟨lq E6 s t e h.1,eX E6 hK _ _ s t e h.2⟩)]
   rcases (dV OI).1 hG with ⟨h1,h2⟩ | ⟨h1,h2⟩
   ·exact .inl ⟨by rw [← gL uX]; exact h1,zd (s:=mw s d cs) (t:=s) rfl rfl yw (gW uX) h2 fun pre preB G hO hk=>core hO hk⟩
   ·refine .inr ⟨by rw [← gL uX]; exact h1,?_⟩
    obtain ⟨pre,preB,G,p1,p2,p3,p4⟩:=bc.put (s:=mw s d cs) (t:=s) (al:=bh oi.op) (w:=false) rfl rfl oi.dst (.v dL)
    rw [p3] at h2
    have hO:fk E s oi (s.put oi.dst (.v dL)):=gX rfl rfl _
    rw [p4] at hO ⊢
    exact core hO h2
end
inductive DT where
 | done
 | take (j:Nat) (C:List Nat) (t:DT)
 | br (i:Nat) (re C:List Nat) (t:DT) (more:DT)
 | stop
 | al (j:Nat) (W:List Nat) (t:DT)
structure jZ where
 dst:Option Tmp
 lo:List Tmp
 pr:List Nat
 n:Bool
 r:Bool
 a:Bool
def Ap (d:Nat) (s:aL):List Nat→Bool
 | []=>true
 | e :: l=>(match lk s e with
  | .lp k _=>!Nat.beq k d
  | _=>true)&&Ap d s l
def J2 (E:Env) (f:FuncId) (o:Oper) (W:List Nat) (s:St):Bool:=match o.guard,o.dst with
 | none,some d=>!E.tc f d&&Ap d s.ae W
 | _,_=>false
def gi (x:Nat):List Nat→Bool
 | []=>false
 | y :: l=>Nat.beq x y || gi x l
def lr:List Edge→List Nat
 | []=>[]
 | e :: l=>bif Region.binds .any e then e.on :: lr l else lr l
def gY (ops:Array Oper) (o:Oper):jZ:=⟨o.dst,o.looksAt ops,lr o.after.toList,n5 o.op,JW o.op,bh o.op⟩
def uY {α:Type} (n:Nat) (K:Nat→α):α:=match n with
 | 0=>K 0
 | m+1=>K (Nat.succ m)
def ui {α:Type}:List Nat→(List Nat→α)→α
 | [],K=>K []
 | a :: l,K=>uY a fun a=>ui l fun l=>K (a :: l)
def J3 {α:Type} (i:jZ) (K:jZ→α):α:=match i with
 | ⟨d,lo,pr,n,r,a⟩=>ui lo fun lo=>ui pr fun pr=>(match d with
  | none=>(fun (K:Option Tmp→α)=>K none)
  | some d=>(fun (K:Option Tmp→α)=>uY d fun d=>K (some d))) fun d=>(bif n then (fun (K:Bool→α)=>K true) else fun K=>K false) fun n=>
   (bif r then (fun (K:Bool→α)=>K true) else fun K=>K false) fun r=>(bif a then (fun (K:Bool→α)=>K true) else fun K=>K false) fun a=>K ⟨d,lo,pr,n,r,a⟩
def Aq {α:Type}:List jZ→(List jZ→α)→α
 | [],K=>K []
 | i :: l,K=>J3 i fun i=>Aq l fun l=>K (i :: l)
def oK (x y:jZ):Bool:=
 (match x.dst with
 | some d=>!gi d y.lo&&(match y.dst with | some e=>!Nat.beq e d | none=>true)
 | none=>true) &&
 (match y.dst with
 | some d=>!gi d x.lo
 | none=>true)
def wP (j:Nat) (x:jZ) (cf:List Nat):Nat→List jZ→Bool
 | _,[]=>true
 | i,y :: l=>(Nat.beq i j || gi j y.pr || gi i cf || oK x y)&&wP j x cf (i+1) l
def wQ (I:List jZ):Nat→List jZ→List (List Nat)→Bool
 | _,[],_=>true
 | j,x :: l,c :: cs=>(!x.n || wP j x c 0 I)&&wQ I (j+1) l cs
 | _,_,_=>false
def rU (cj:Nat→List Nat):Nat→List jZ→Bool
 | _,[]=>true
 | i,x :: l=>(cj i).all (fun a=>x.pr.any fun e=>Nat.beq e a || gi a (cj e))&&rU cj (i+1) l
def j3 (L:Nat):Nat→List jZ→List Nat
 | _,[]=>[]
 | i,x :: l=>bif !L.testBit i&&x.pr.all (fun e=>L.testBit e) then i :: j3 L (i+1) l else j3 L (i+1) l
def ls (x y:jZ):Bool:=y.a || (x.r&&!y.n)
def lu (cj:Nat→List Nat) (L k:Nat) (x:jZ):Nat→List jZ→Bool
 | _,[]=>true
 | i,y :: l=>(L.testBit i || !ls x y || gi k (cj i))&&lu cj L k x (i+1) l
def qx (I:List jZ) (cj:Nat→List Nat) (L:Nat) (C C':List Nat):Bool:=C.all fun k=>gi k C' || match nth I k with
 | none=>false
 | some x=>lu cj L k x 0 I
def IF (I:List jZ) (cj:Nat→List Nat) (C re:List Nat) (i:Nat) (y:jZ):Bool:=C.all fun k=>gi k re || match nth I k with
 | none=>false
 | some x=>!ls x y || gi k (cj i)
def Ar (cj:Nat→List Nat) (L:Nat) (W:List Nat) (j:Nat) (x:jZ):Nat→List jZ→Bool
 | _,[]=>true
 | i,y :: l=>(Nat.beq i j || L.testBit i || gi j (cj i) || (oK x y&&y.lo.all fun e=>gi e W))&&Ar cj L W j x (i+1) l
def As (I:List jZ) (C:List Nat):Bool:=C.all fun k=>match nth I k with
 | some x=>x.n
 | none=>false
def iB (I:List jZ) (N:Nat) (cj:Nat→List Nat) (cf:List (List Nat)):DT→Nat→List Nat→Nat→Option (List Nat)→Bool
 | .done,_,_,L,none=>Nat.beq L N
 | .take j C' t,n+1,C,L,none=>match nth I j,nth cf j with
  | some x,some c=>match x.dst with
   | none=>false
   | some d=>x.n&&!gi d x.lo&&(C.all fun k=>match nth I k with
     | none=>false
     | some y=>!gi d y.lo&&(match y.dst with | some e=>!Nat.beq e d | none=>true)) &&
    c.all (fun i=>L.testBit i)&&!L.testBit j&&x.pr.all (fun e=>L.testBit e)&&As I C' &&
    uY (L ||| 2 ^ j) fun L'=>qx I cj L' (j :: C) C'&&iB I N cj cf t n C' L' none
  | _,_=>false
 | .br i re C' t more,n+1,C,L,left=>match nth I i with
  | none=>false
  | some y=>(match left with
   | none=>fun (K:List Nat→Bool)=>ui (j3 L 0 I) K
   | some l=>fun K=>K l) fun l=>
    IF I cj C re i y&&As I C'&&gi i l&&(uY (L ||| 2 ^ i) fun L'=>qx I cj L' C C'&&iB I N cj cf t n C' L' none) &&
     iB I N cj cf more (n+1) C L (some (l.filter fun k=>!Nat.beq k i))
 | .stop,_,_,_,some l=>l.isEmpty
 | .al j W t,n+1,C,L,none=>match nth I j with
  | some x=>match x.dst with
   | none=>false
   | some _=>C.isEmpty&&x.a&&!L.testBit j&&x.pr.all (fun e=>L.testBit e)&&Ar cj L W j x 0 I&&uY (L ||| 2 ^ j) fun L'=>iB I N cj cf t n [] L' none
  | none=>false
 | _,_,_,_,_=>false
def uj (E:Env) (f:FuncId) (ops:List Oper):List Nat→St→Prop
 | [],_=>True
 | k :: l,s=>(match nth ops k with
  | some ok=>yY E f ops ok s
  | none=>True)∧uj E f ops l s
def n9 (E:Env) (f:FuncId) (ops:List Oper):DT→(St→Prop)→St→Prop
 | .done,K,s=>K s
 | .take j _ t,K,s=>match nth ops j with
  | some oj=>bw E f ops oj (n9 E f ops t K) s
  | none=>False
 | .br i re _ t more,K,s=>(match nth ops i with
  | some oi=>bw E f ops oi (fun s'=>uj E f ops re s'∧n9 E f ops t K s') s
  | none=>False)∧n9 E f ops more K s
 | .stop,_,_=>True
 | .al j W t,K,s=>match nth ops j with
  | some oj=>J2 E f oj W s=true∧bw E f ops oj (n9 E f ops t K) s
  | none=>False
def C0 (l:List (List Nat)) (i:Nat):List Nat:=match nth l i with
 | some a=>a
 | none=>[]
section
variable {E:Env} {s t:St} {f:FuncId} {ops:Array Oper} {K:St→Prop} {cj:Nat→List Nat}
theorem cX {x:Nat}:∀ {l:List Nat},gi x l=true↔x∈l
 | []=>by simp [gi]
 | y :: l=>by simp [gi,cX (l:=l)]
theorem j4 {α:Type} (n:Nat) (K:Nat→α):uY n K=K n:=by cases n <;> rfl
theorem rV {α:Type}:∀ (l:List Nat) (K:List Nat→α),ui l K=K l
 | [],_=>rfl
 | a :: l,K=>by simp only [ui,j4]; rw [rV]
theorem FE {α:Type} (i:jZ) (K:jZ→α):J3 i K=K i:=by
 obtain ⟨d,lo,pr,n,r,a⟩:=i
 cases d <;> cases n <;> cases r <;> cases a <;> simp [J3,rV,j4]
theorem wR {α:Type}:∀ (l:List jZ) (K:List jZ→α),Aq l K=K l
 | [],_=>rfl
 | a :: l,K=>by simp only [Aq,FE]; rw [wR]
def gZ (ops:Array Oper):List jZ:=ops.toList.map (gY ops)
theorem nJ {k:Nat} {x:jZ} (h:nth (gZ ops) k=some x):∃ o,ops[k]?=some o∧x=gY ops o:=by
 rw [aJ,gZ,List.getElem?_map,Array.getElem?_toList] at h
 cases ho:ops[k]? with
 | none=>rw [ho] at h; cases h
 | some o=>rw [ho] at h; exact ⟨o,rfl,by simpa using h.symm⟩
theorem fD {e:Nat}:∀ {l:List Edge},e∈lr l↔∃ ed∈l,Region.binds .any ed=true∧ed.on=e
 | []=>by simp [lr]
 | x :: l=>by
  unfold lr
  cases hb:Region.binds .any x with
  | true=>
   simp only [cond_true,List.mem_cons,fD (l:=l),exists_eq_or_imp,hb,true_and]
   constructor
   ·rintro (h | h)
    ·exact .inl h.symm
    ·exact .inr h
   ·rintro (h | h)
    ·exact .inl h.symm
    ·exact .inr h
  | false=>simp only [cond_false,List.mem_cons,fD (l:=l),exists_eq_or_imp,hb,false_and,false_or,Bool.false_eq_true]
theorem uk {x y:Oper} (h:oK (gY ops x) (gY ops y)=true):x.apart ops y=true:=by
 have hm:∀ (d:Nat) (l:List Nat),gi d l=false→l.contains d=false:=fun d l h=>by
  cases hc:l.contains d with
  | false=>rfl
  | true=>rw [cX.2 (by simpa using hc)] at h; cases h
 unfold oK at h
 unfold Oper.apart
 simp only [gY,Bool.and_eq_true] at h ⊢
 refine ⟨?_,?_⟩
 ·cases hx:x.dst with
  | none=>rfl
  | some d=>
   rw [hx] at h
   simp only [Bool.and_eq_true,Bool.not_eq_true'] at h ⊢
   refine ⟨hm _ _ h.1.1,?_⟩
   have h2:=h.1.2
   cases hy:y.dst with
   | none=>rfl
   | some e=>
    rw [hy] at h2
    simp only [Bool.not_eq_true'] at h2
    have:e≠d:=fun k=>by rw [k,mZ] at h2; cases h2
    simpa using this
 ·cases hy:y.dst with
  | none=>rfl
  | some d=>
   rw [hy] at h
   simp only [Bool.not_eq_true'] at h ⊢
   exact hm _ _ h.2
def wS (ops:Array Oper) (L:Nat) (listed:Array Bool):Prop:=listed.size=ops.size∧∀ i,i < ops.size→listed[i]?=some (L.testBit i)
theorem wS.add {L:Nat} {listed:Array Bool} (h:wS ops L listed) (j:Nat):wS ops (L ||| 2 ^ j) (listed.setIfInBounds j true):=by
 refine ⟨by simp [h.1],fun i hi=>?_⟩
 rw [Nat.testBit_or,Nat.testBit_two_pow]
 by_cases e:j=i
 ·subst e
  rw [Array.getElem?_setIfInBounds_self_of_lt (by rw [h.1]; exact hi)]
  simp
 ·rw [Array.getElem?_setIfInBounds_ne e,h.2 i hi]
  simp [e]
theorem wS.wT {L:Nat} {listed:Array Bool} (h:wS ops L listed) {i:Nat} (hi:i < ops.size) (b:Bool):listed.getD i b=L.testBit i:=by
 rw [Array.getD_eq_getD_getElem?,h.2 i hi]; rfl
theorem my {L:Nat} {listed:Array Bool} (h:wS ops L listed) {j:Nat} {o:Oper} (ho:ops[j]?=some o) (h1:L.testBit j=false) (h2:((gY ops o).pr.all fun e=>L.testBit e)=true)
  (bD:∀ e∈o.after,Region.binds .any e=true→e.on < ops.size):j∈Region.ready .any ops listed:=by
 have hj:j < ops.size:=(Array.getElem?_eq_some_iff.1 ho).1
 refine mem_ready.2 ⟨by rw [h.wT hj]; exact h1,o,ho,fun e he hb=>?_⟩
 rw [h.wT (bD e he hb)]
 exact List.all_eq_true.1 h2 e.on (fD.2 ⟨e,by simpa using he,hb,rfl⟩)
def J4 (n:Nat) (I:List jZ):Bool:=I.all fun x=>x.pr.all fun e=>Nat.blt e n
theorem eG {k:Nat} {o:Oper} (h:ops[k]?=some o):nth (gZ ops) k=some (gY ops o):=by
 rw [aJ,gZ,List.getElem?_map,Array.getElem?_toList,h]; rfl
theorem hJ {k:Nat} {o:Oper} (h:ops[k]?=some o):(gZ ops)[k]?=some (gY ops o):=by
 rw [← aJ]; exact eG h
theorem lx (h:J4 ops.size (gZ ops)=true) {k:Nat} {o:Oper} (ho:ops[k]?=some o):∀ e∈o.after,Region.binds .any e=true→e.on < ops.size:=fun e he hb=>by
 have h1:=List.all_eq_true.1 h (gY ops o) (List.mem_of_getElem? (hJ ho))
 have h2:=List.all_eq_true.1 h1 e.on (fD.2 ⟨e,by simpa using he,hb,rfl⟩)
 exact Nat.le_of_ble_eq_true h2
theorem rW {j:Nat} {x:jZ} {c:List Nat}:∀ {l:List jZ} {i:Nat},wP j x c i l=true→∀ k y,l[k]?=some y→(Nat.beq (i+k) j || gi j y.pr || gi (i+k) c || oK x y)=true
 | [],_,_,k,y,hk=>by simp at hk
 | z :: l,i,h,k,y,hk=>by
  unfold wP at h
  rw [Bool.and_eq_true] at h
  cases k with
  | zero=>simp at hk; subst hk; exact h.1
  | succ k=>
   have:=rW h.2 k y (by simpa using hk)
   rw [show i+1+k=i+(k+1) by omega] at this
   exact this
theorem rX {I:List jZ}:∀ {l:List jZ} {j:Nat} {cs:List (List Nat)},wQ I j l cs=true→∀ k x c,l[k]?=some x→cs[k]?=some c→x.n=true→wP (j+k) x c 0 I=true
 | [],_,_,_,k,x,c,hk,_,_=>by simp at hk
 | z :: l,j,[],_,k,x,c,_,hc,_=>by simp at hc
 | z :: l,j,d :: cs,h,k,x,c,hk,hc,hn=>by
  unfold wQ at h
  rw [Bool.and_eq_true] at h
  cases k with
  | zero=>
   simp at hk hc
   subst hk hc
   have:=h.1
   rw [hn] at this
   simpa using this
  | succ k=>
   have:=rX h.2 k x c (by simpa using hk) (by simpa using hc) hn
   rw [show j+1+k=j+(k+1) by omega] at this
   exact this
theorem pC:∀ {l:List jZ} {i:Nat},rU cj i l=true→∀ k x,l[k]?=some x→∀ a∈cj (i+k),∃ e∈x.pr,e=a∨a∈cj e
 | [],_,_,k,x,hk=>by simp at hk
 | z :: l,i,h,k,x,hk=>by
  unfold rU at h
  rw [Bool.and_eq_true] at h
  cases k with
  | zero=>
   simp at hk
   subst hk
   intro a ha
   have h1:=List.all_eq_true.1 h.1 a ha
   obtain ⟨e,he,h2⟩:=List.any_eq_true.1 h1
   rw [Bool.or_eq_true] at h2
   refine ⟨e,he,?_⟩
   rcases h2 with h2 | h2
   ·exact .inl (Nat.eq_of_beq_eq_true h2)
   ·exact .inr (cX.1 h2)
  | succ k=>
   have:=pC h.2 k x (by simpa using hk)
   rw [show i+1+k=i+(k+1) by omega] at this
   exact this
theorem zg (h:rU cj 0 (gZ ops)=true):uh ops cj:=fun i oi a hi ha=>by
 have h1:=pC h i _ (hJ hi) a (by rw [Nat.zero_add]; exact ha)
 obtain ⟨e,he,h2⟩:=h1
 obtain ⟨ed,q1,q2,rfl⟩:=fD.1 he
 exact ⟨ed,by simpa using q1,q2,h2⟩
theorem kK {L:Nat}:∀ {l:List jZ} {i k:Nat},k∈j3 L i l↔∃ j x,k=i+j∧l[j]?=some x∧L.testBit k=false∧(x.pr.all fun e=>L.testBit e)=true
 | [],i,k=>by simp [j3]
 | z :: l,i,k=>by
  have ih:=kK (L:=L) (l:=l) (i:=i+1) (k:=k)
  have rest:(∃ j x,k=i+1+j∧l[j]?=some x∧L.testBit k=false∧(x.pr.all fun e=>L.testBit e)=true)↔∃ j x,k=i+(j+1)∧(z :: l)[j+1]?=some x∧L.testBit k=false∧(x.pr.all fun e=>L.testBit e)=true:=by
   constructor
   ·rintro ⟨j,x,h1,h2⟩; exact ⟨j,x,by omega,by simpa using h2⟩
   ·rintro ⟨j,x,h1,h2⟩; exact ⟨j,x,by omega,by simpa using h2⟩
  unfold j3
  cases hc:(!L.testBit i&&z.pr.all fun e=>L.testBit e) with
  | true=>
   simp only [cond_true,List.mem_cons,ih,rest]
   rw [Bool.and_eq_true,Bool.not_eq_true'] at hc
   constructor
   ·rintro (rfl | ⟨j,x,h⟩)
    ·exact ⟨0,z,rfl,rfl,hc⟩
    ·exact ⟨j+1,x,h⟩
   ·rintro ⟨j,x,h1,h2⟩
    cases j with
    | zero=>exact .inl h1
    | succ j=>exact .inr ⟨j,x,h1,h2⟩
  | false=>
   simp only [cond_false,ih,rest]
   constructor
   ·rintro ⟨j,x,h⟩; exact ⟨j+1,x,h⟩
   ·rintro ⟨j,x,h1,h2,h3,h4⟩
    cases j with
    | zero=>
     simp at h2 h1
     subst h1 h2
     rw [h3,h4] at hc
     cases hc
    | succ j=>exact ⟨j,x,h1,h2,h3,h4⟩
theorem kL {L k:Nat} {x:jZ}:∀ {l:List jZ} {i:Nat},lu cj L k x i l=true→∀ j y,l[j]?=some y→L.testBit (i+j)=false→ls x y=true→k∈cj (i+j)
 | [],_,_,j,y,hj=>by simp at hj
 | z :: l,i,h,j,y,hj=>by
  unfold lu at h
  rw [Bool.and_eq_true] at h
  cases j with
  | zero=>
   simp at hj
   subst hj
   intro h1 h2
   have h3:=h.1
   rw [Nat.add_zero] at h1
   rw [h1,h2] at h3
   exact cX.1 (by simpa using h3)
  | succ j=>
   have:=kL h.2 j y (by simpa using hj)
   rw [show i+1+j=i+(j+1) by omega] at this
   exact this
theorem pD {L:Nat} {listed:Array Bool} (hM:wS ops L listed) {C C':List Nat} (h:qx (gZ ops) cj L C C'=true):∀ k∈C,k∈C'∨∀ i ok oi,ops[k]?=some ok→ops[i]?=some oi→listed.getD i true=false→fO ok oi=true→k∈cj i:=fun k hk=>by
 have h1:=List.all_eq_true.1 h k hk
 rw [Bool.or_eq_true] at h1
 rcases h1 with h1 | h1
 ·exact .inl (cX.1 h1)
 ·refine .inr fun i ok oi q1 q2 q3 q4=>?_
  rw [eG q1] at h1
  have hi:i < ops.size:=(Array.getElem?_eq_some_iff.1 q2).1
  have:=kL h1 i _ (hJ q2) (by rw [Nat.zero_add,← hM.wT hi]; exact q3) q4
  rw [Nat.zero_add] at this
  exact this
theorem ul {C:List Nat} (h:As (gZ ops) C=true):NC ops C:=fun k hk ok da=>by
 have:=List.all_eq_true.1 h k hk
 rw [eG da] at this
 exact this
theorem rY {L j:Nat} {x:jZ} {W:List Nat}:∀ {l:List jZ} {i:Nat},Ar cj L W j x i l=true→∀ k y,l[k]?=some y→(Nat.beq (i+k) j || L.testBit (i+k) || gi j (cj (i+k)) || (oK x y&&y.lo.all fun e=>gi e W))=true
 | [],_,_,k,y,hk=>by simp at hk
 | z :: l,i,h,k,y,hk=>by
  unfold Ar at h
  rw [Bool.and_eq_true] at h
  cases k with
  | zero=>simp at hk; subst hk; exact h.1
  | succ k=>
   have:=rY h.2 k y (by simpa using hk)
   rw [show i+1+k=i+(k+1) by omega] at this
   exact this
theorem rZ {d:Nat} {s:aL}:∀ {l:List Nat},Ap d s l=true→∀ e∈l,∀ off,lk s e≠.lp d off
 | [],_,e,he,_=>by cases he
 | a :: l,h,e,he,off=>by
  unfold Ap at h
  rw [Bool.and_eq_true] at h
  rcases List.mem_cons.1 he with rfl | he
  ·intro hv
   have h1:=h.1
   rw [hv] at h1
   simp only [mZ] at h1
   cases h1
  ·exact rZ h.2 e he off
theorem kM {cf:List (List Nat)} (hA:uh ops cj) (hP:J4 ops.size (gZ ops)=true) (hF:wQ (gZ ops) 0 (gZ ops) cf=true) (hK:Inv K):∀ (T:DT) (n:Nat) (C:List Nat) (listed:Array Bool) (L:Nat),NC ops C→jY cj listed→wS ops L listed →
  (iB (gZ ops) (2 ^ ops.size - 1) cj cf T n C L none=true→∀ s,n9 E f ops.toList T K s→dG E f ops cj C K n listed s) ∧
  (∀ m l,n=m+1→iB (gZ ops) (2 ^ ops.size - 1) cj cf T n C L (some l)=true→∀ s,n9 E f ops.toList T K s→∀ i∈l,i∈Region.ready .any ops listed→∀ oi,ops[i]?=some oi →
   bw E f ops.toList oi (fun s'=>Bv E f ops cj C i s'∧dG E f ops cj C K m (listed.setIfInBounds i true) s') s)
 | .done,n,C,listed,L,hC,gl,hM=>by
  refine ⟨fun h s hs=>?_,fun m l _ h=>by simp [iB] at h⟩
  have hL:L=2 ^ ops.size - 1:=Nat.eq_of_beq_eq_true (by simpa only [iB] using h)
  have hr:Region.ready .any ops listed=[]:=by
   apply List.eq_nil_iff_forall_not_mem.2
   intro j hj
   obtain ⟨h1,o,ho,_⟩:=mem_ready.1 hj
   have bD:j < ops.size:=(Array.getElem?_eq_some_iff.1 ho).1
   rw [hM.wT bD,hL,Nat.testBit_two_pow_sub_one] at h1
   simp [bD] at h1
  cases n with
  | zero=>exact ⟨hr,hs⟩
  | succ n=>exact ⟨fun _=>hs,fun i hi=>by rw [hr] at hi; simp at hi⟩
 | .stop,n,C,listed,L,hC,gl,hM=>by
  refine ⟨fun h=>by cases n <;> simp [iB] at h,fun m l e h s _ i hi=>?_⟩
  subst e
  have:l=[]:=by simpa [iB] using h
  rw [this] at hi
  simp at hi
 | .al j W T,0,C,listed,L,hC,gl,hM=>⟨fun h=>by simp [iB] at h,fun m l e=>by cases e⟩
 | .al j W T,n+1,C,listed,L,hC,gl,hM=>by
  refine ⟨fun h s hs=>?_,fun m l _ h=>by simp [iB] at h⟩
  unfold iB at h
  split at h
  ·rename_i x hx
   obtain ⟨oj,hj,rfl⟩:=nJ hx
   split at h
   ·cases h
   ·rename_i d hd
    simp only [j4,Bool.and_eq_true] at h
    obtain ⟨⟨⟨⟨⟨PH,Bq⟩,hbit⟩,M5⟩,q8⟩,hT⟩:=h
    have PH:C=[]:=by simpa using PH
    subst PH
    have Bq:bh oj.op=true:=Bq
    have hd:oj.dst=some d:=hd
    have r7:j∈Region.ready .any ops listed:=my hM hj (by simpa using hbit) M5 (lx hP hj)
    obtain ⟨ih,_⟩:=kM hA hP hF hK T n [] (listed.setIfInBounds j true) (L ||| 2 ^ j) (fun k hk=>by cases hk) (gl.add hA r7) (hM.add j)
    unfold n9 at hs
    rw [aJ,Array.getElem?_toList,hj] at hs
    simp only at hs
    obtain ⟨da,hs⟩:=hs
    unfold J2 at da
    split at da
    ·rename_i _ d' hg zW
     rw [hd] at zW
     cases zW
     rw [Bool.and_eq_true] at da
     have J1:E.tc f d=false:=by simpa using da.1
     have Jq:bw E f ops.toList oj (dG E f ops cj [] K n (listed.setIfInBounds j true)) s:=bz hs fun s' h'=>ih hT s' h'
     unfold bw at Jq
     rw [hg] at Jq
     obtain ⟨s1,q1,q2⟩:=(An Bq).1 Jq
     refine CZ hA hK hj hg hd Bq J1 n listed s s1 gl (fun i oi hi bT CX oC=>?_) r7 q1 q2
     have dR:=rY q8 i _ (hJ hi)
     rw [Nat.zero_add] at dR
     simp only [Bool.or_eq_true] at dR
     have J5:i < ops.size:=(Array.getElem?_eq_some_iff.1 hi).1
     rcases dR with ((h1 | h1) | h1) | h1
     ·exact absurd (Nat.eq_of_beq_eq_true h1) bT
     ·rw [hM.wT J5,h1] at CX; cases CX
     ·exact absurd (cX.1 h1) oC
     ·rw [Bool.and_eq_true] at h1
      exact ⟨uk h1.1,fun e he off=>rZ da.2 e (cX.1 (List.all_eq_true.1 h1.2 e he)) off⟩
    ·cases da
  ·cases h
 | .take j C' T,0,C,listed,L,hC,gl,hM=>⟨fun h=>by simp [iB] at h,fun m l e=>by cases e⟩
 | .take j C' T,n+1,C,listed,L,hC,gl,hM=>by
  refine ⟨fun h s hs=>?_,fun m l _ h=>by simp [iB] at h⟩
  unfold iB at h
  split at h
  ·rename_i x c hx hc
   obtain ⟨oj,hj,rfl⟩:=nJ hx
   split at h
   ·cases h
   ·rename_i d hd
    simp only [j4,Bool.and_eq_true] at h
    obtain ⟨⟨⟨⟨⟨⟨⟨hN,wN⟩,PD⟩,hcf⟩,hbit⟩,M5⟩,lI⟩,J6,hT⟩:=h
    have hN:n5 oj.op=true:=hN
    have hd:oj.dst=some d:=hd
    have r7:j∈Region.ready .any ops listed:=my hM hj (by simpa using hbit) M5 (lx hP hj)
    have LM:∀ {d:Nat} {l:List Nat},(!gi d l)=true→d∉l:=fun h hm=>by rw [cX.2 hm] at h; cases h
    have J7:d∉oj.looksAt ops:=LM wN
    have PI:∀ k∈C,∀ ok,ops[k]?=some ok→d∉ok.looksAt ops∧ok.dst≠some d:=fun k hk ok da=>by
     have:=List.all_eq_true.1 PD k hk
     rw [eG da] at this
     simp only [Bool.and_eq_true] at this
     refine ⟨LM this.1,fun e=>?_⟩
     have h2:=this.2
     simp only [gY,e,mZ] at h2
     cases h2
    have E6:NC ops (j :: C):=fun k hk ok ho=>by
     rcases List.mem_cons.1 hk with rfl | hk
     ·rw [hj] at ho; cases ho; exact hN
     ·exact hC k hk ok ho
    have PJ:=gl.add hA r7
    obtain ⟨ih,_⟩:=kM hA hP hF hK T n C' (listed.setIfInBounds j true) (L ||| 2 ^ j) (ul lI) PJ (hM.add j)
    unfold n9 at hs
    rw [aJ,Array.getElem?_toList,hj] at hs
    simp only at hs
    have Jq:bw E f ops.toList oj (dG E f ops cj (j :: C) K n (listed.setIfInBounds j true)) s:=bz hs fun s' h'=>jX n _ _ (pD (hM.add j) J6) (ih hT s' h')
    obtain ⟨x,ou,hk⟩:=rQ hN (eX E6 hK _ _) Jq
    rw [hd] at hk
    refine ze hA hC hK hj hN hd J7 PI n listed s x gl (fun i oi hi bT CX oC=>?_) r7 ou hk
    have q8:=rX hF j _ c (hJ hj) (by rw [← aJ]; exact hc) hN
    have dR:=rW q8 i _ (hJ hi)
    rw [Nat.zero_add,Nat.zero_add] at dR
    simp only [Bool.or_eq_true] at dR
    have J5:i < ops.size:=(Array.getElem?_eq_some_iff.1 hi).1
    rcases dR with ((h1 | h1) | h1) | h1
    ·exact absurd (Nat.eq_of_beq_eq_true h1) bT
    ·obtain ⟨e,q1,q2,q3⟩:=fD.1 (cX.1 h1)
     exact absurd q3 (oC e (by simpa using q1) q2)
    ·have:=List.all_eq_true.1 hcf i (cX.1 h1)
     rw [hM.wT J5,this] at CX
     cases CX
    ·exact uk h1
  ·cases h
 | .br i re C' T more,0,C,listed,L,hC,gl,hM=>⟨fun h=>by simp [iB] at h,fun m l e=>by cases e⟩
 | .br i re C' T more,n+1,C,listed,L,hC,gl,hM=>by
  have main:∀ left l,(match left with | none=>j3 L 0 (gZ ops) | some l=>l)=l→iB (gZ ops) (2 ^ ops.size - 1) cj cf (.br i re C' T more) (n+1) C L left=true→∀ s,n9 E f ops.toList (.br i re C' T more) K s→i∈l∧∀ k∈l,k∈Region.ready .any ops listed→∀ ok,ops[k]?=some ok →
    bw E f ops.toList ok (fun s'=>Bv E f ops cj C k s'∧dG E f ops cj C K n (listed.setIfInBounds k true) s') s:=by
   intro left l hl h s hs
   unfold iB at h
   split at h
   ·cases h
   ·rename_i y hy
    obtain ⟨oi,nI,rfl⟩:=nJ hy
    have h:(IF (gZ ops) cj C re i (gY ops oi)&&As (gZ ops) C'&&gi i l&&(qx (gZ ops) cj (L ||| 2 ^ i) C C'&&iB (gZ ops) (2 ^ ops.size - 1) cj cf T n C' (L ||| 2 ^ i) none) &&
     iB (gZ ops) (2 ^ ops.size - 1) cj cf more (n+1) C L (some (l.filter fun k=>!Nat.beq k i)))=true:=by
     cases left with
     | none=>simp only at hl; subst hl; simp only [rV,j4] at h; exact h
     | some l'=>simp only at hl; subst hl; simp only [j4] at h; exact h
    simp only [Bool.and_eq_true] at h
    obtain ⟨⟨⟨⟨MB,lI⟩,lH⟩,J6,hT⟩,hmore⟩:=h
    unfold n9 at hs
    refine ⟨cX.1 lH,fun k hk OK ok da=>?_⟩
    by_cases e:k=i
    ·subst e
     rw [nI] at da
     cases da
     obtain ⟨ih,_⟩:=kM hA hP hF hK T n C' (listed.setIfInBounds k true) (L ||| 2 ^ k) (ul lI) (gl.add hA OK) (hM.add k)
     have h1:=hs.1
     rw [aJ,Array.getElem?_toList,nI] at h1
     refine bz h1 fun s' h'=>⟨fun c hc oc IE q1 q2 q3 q4=>?_,jX n _ _ (pD (hM.add k) J6) (ih hT s' h'.2)⟩
     rw [nI] at q2
     cases q2
     have tX:=List.all_eq_true.1 MB c hc
     rw [eG q1] at tX
     have SN:ls (gY ops oc) (gY ops oi)=true:=q3
     simp only [SN,Bool.not_true,Bool.false_or,Bool.or_eq_true] at tX
     rcases tX with tX | tX
     ·have hm:c∈re:=cX.1 tX
      have:∀ (re:List Nat),c∈re→uj E f ops.toList re s'→yY E f ops.toList oc s':=by
       intro re
       induction re with
       | nil=>intro hm; simp at hm
       | cons a re ihr=>
        intro hm ha
        rcases List.mem_cons.1 hm with rfl | hm
        ·have:=ha.1
         rw [aJ,Array.getElem?_toList,q1] at this
         exact this
        ·exact ihr hm ha.2
      exact this re hm h'.1
     ·exact absurd (cX.1 tX) q4
    ·obtain ⟨_,ih⟩:=kM hA hP hF hK more (n+1) C listed L hC gl hM
     refine ih n _ rfl hmore s hs.2 k ?_ OK ok da
     rw [List.mem_filter]
     exact ⟨hk,by rw [jL e]; rfl⟩
  refine ⟨fun h s hs=>?_,fun m l e h s hs k hk OK ok da=>?_⟩
  ·obtain ⟨m1,m2⟩:=main none _ rfl h s hs
   have back:∀ k,k∈j3 L 0 (gZ ops)→k∈Region.ready .any ops listed:=fun k hk=>by
    obtain ⟨j,x,q1,q2,q3,q4⟩:=kK.1 hk
    rw [Nat.zero_add] at q1
    subst q1
    rw [← aJ] at q2
    obtain ⟨o,ho,rfl⟩:=nJ q2
    exact my hM ho q3 q4 (lx hP ho)
   have M6:∀ k,k∈Region.ready .any ops listed→k∈j3 L 0 (gZ ops):=fun k hk=>by
    obtain ⟨h1,o,ho,lI⟩:=mem_ready.1 hk
    have bD:k < ops.size:=(Array.getElem?_eq_some_iff.1 ho).1
    refine kK.2 ⟨k,gY ops o,by omega,hJ ho,by rw [← hM.wT bD]; exact h1,List.all_eq_true.2 fun e he=>?_⟩
    obtain ⟨ed,q1,q2,rfl⟩:=fD.1 he
    have h2:=lI ed (by simpa using q1) q2
    rw [hM.wT (lx hP ho ed (by simpa using q1) q2)] at h2
    exact h2
   refine ⟨fun h0=>?_,fun k hk ok da=>m2 k (M6 k hk) hk ok da⟩
   have:=back i m1
   rw [h0] at this
   simp at this
  ·cases e
   exact (main (some l) l rfl h s hs).2 k hk OK ok da
theorem r8 {R:ah} {w:World} {β:Nat→Nat} {F:Fence} {Qc:Exit→Act→World→Prop} {C:List Nat} (hQ:∀ a' w',kG E R w β s K a' w'→Qc .normal a' w') :
  ∀ (n:Nat) (listed:Array Bool) (R1:ah) (w1:World) (β1:Nat→Nat) (s1:St) (a1:Act),aP E R1 w1 β1 s1 a1→Step R w β s.boxes R1 w1 β1 s1.boxes→s1.ro=s.ro→bg R1 s1.ro F →
   dG E f ops cj C K n listed s1→wpAnyIn F 0 E.P .any ops Qc n listed a1 w1
 | 0,listed,R1,w1,β1,s1,a1,hr,iA,bj,_,ha=>⟨ha.1,hQ _ _ ⟨s1,R1,β1,ha.2,hr,iA,bj⟩⟩
 | n+1,listed,R1,w1,β1,s1,a1,hr,iA,bj,hf,ha=>by
  refine ⟨fun h0=>hQ _ _ ⟨s1,R1,β1,ha.1 h0,hr,iA,bj⟩,fun i hi=>?_⟩
  obtain ⟨_,o,ho,_⟩:=mem_ready.1 hi
  unfold wpOpIn
  simp only [ho]
  refine nD hr hf (ha.2 i hi o ho) _ ?_
  rintro a' w' ⟨s',R',β',q1,q2,q3,q4⟩
  exact r8 hQ n _ R' w' β' s' a' q2 (iA.trans q3) (q4.trans bj) (by rw [q4]; exact hf.mono q3.ext) q1.2
theorem dz {K':St→Prop} (hK:∀ s,K s→K' s):∀ (T:DT) (s:St),n9 E f ops.toList T K s→n9 E f ops.toList T K' s
 | .done,s,h=>hK s h
 | .stop,_,_=>trivial
 | .take j C T,s,h=>by
  unfold n9 at h ⊢
  split
  ·rename_i oj hj
   rw [hj] at h
   exact bz h fun s' h'=>dz hK T s' h'
  ·rename_i hj
   rw [hj] at h
   exact h
 | .al j W T,s,h=>by
  unfold n9 at h ⊢
  split
  ·rename_i oj hj
   rw [hj] at h
   exact ⟨h.1,bz h.2 fun s' h'=>dz hK T s' h'⟩
  ·rename_i hj
   rw [hj] at h
   exact h
 | .br i re C T more,s,h=>by
  unfold n9 at h ⊢
  refine ⟨?_,dz hK more s h.2⟩
  have h:=h.1
  split
  ·rename_i oj hj
   rw [hj] at h
   exact bz h fun s' h'=>⟨h'.1,dz hK T s' h'.2⟩
  ·rename_i hj
   rw [hj] at h
   exact h
structure af where
 cj:List (List Nat)
 cf:List (List Nat)
 T:DT
def zh (ops:Array Oper) (p:af):Bool:=Aq (ops.toList.map (gY ops)) fun I=>
 uY ops.size fun n=>uY (2 ^ n - 1) fun N=>rU (C0 p.cj) 0 I&&J4 n I&&wQ I 0 I p.cf&&iB I N (C0 p.cj) p.cf p.T n [] 0 none
theorem aP.drawn {R:ah} {w:World} {β:Nat→Nat} {a:Act} (h:aP E R w β s a):aP E R { w with drawn:=w.drawn+1 } β s a∧Step R w β s.boxes R { w with drawn:=w.drawn+1 } β s.boxes:=by
 have e:Ext R w R { w with drawn:=w.drawn+1 }:=⟨fun _ _ h=>h,fun _ _ _=>rfl,fun _ ro h=>⟨ro,h,bF.refl ro⟩,er.refl w⟩
 refine ⟨⟨⟨h.g.len,fun id go ro h1 h2=>(h.g.obj id go ro h1 h2).mono e (fun _ _=>rfl) (fun _ _ _ h=>h),h.g.inj,h.g.wf,fun g cs hg=>(h.g.bY g cs hg).mono e,Nat.le_succ_of_le h.g.lo⟩,?_,h.t.mono e,h.n,h.d⟩,?_⟩
 ·exact h.b.bA e (fun _ _ _=>rfl) (fun _ _ _ _ h=>h) (fun _ _ _ h=>h)
 ·exact ⟨e,rfl,rfl,rfl,Nat.le_refl _,fun _ _ _=>rfl,fun _ _ h=>h,fun _ _ h _ _=>h⟩
theorem dS.draw {id:Nat} {p:af} {Q:Exit→St→Prop} (da:zh ops p=true) (h:n9 E f ops.toList p.T (Q .normal) s):dS E (.region id ops true) Q s:=fun R w β a F hr hf=>by
 simp only [zh,wR,j4,Bool.and_eq_true] at da
 obtain ⟨⟨⟨hA,hP⟩,hF⟩,hT⟩:=da
 refine wpIn_region_any E.mixed ?_
 obtain ⟨q1,q2⟩:=hr.drawn
 have hK:Inv (fun s=>∃ u,ln u s∧Q .normal u):=fun s t e ⟨u,h1,h2⟩=>⟨u,h1.trans e,h2⟩
 have h':=dz (K':=fun s=>∃ u,ln u s∧Q .normal u) (fun s h=>⟨s,ln.refl s,h⟩) p.T s h
 have gl:jY (C0 p.cj) (Array.replicate ops.size false):=fun i hi=>by
  rw [Array.getD_eq_getD_getElem?,Array.getElem?_replicate] at hi
  split at hi <;> cases hi
 have J8:=(kM (E:=E) (f:=f) (zg hA) hP hF hK p.T ops.size [] (Array.replicate ops.size false) 0 (fun k hk=>by simp at hk) gl ⟨by simp,fun i hi=>by simp [hi]⟩).1 hT s h'
 refine r8 (R:=R) (w:=w) (β:=β) (s:=s) (f:=f) (K:=fun s=>∃ u,ln u s∧Q .normal u) ?_ _ _ R _ β s a q1 q2 rfl hf J8
 rintro a' w' ⟨s',R',β',⟨u,e,hu⟩,h2,h3,h4⟩
 exact ⟨u,R',β',hu,h2.eqv e.symm,h3.eqv rfl e.symm.b,e.ro.trans h4⟩
end
end Go.Am
