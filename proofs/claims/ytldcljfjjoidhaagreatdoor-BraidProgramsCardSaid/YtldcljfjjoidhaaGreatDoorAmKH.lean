/- The abstract machine: regions whose order the tape draws,along a tree of choices that was checked. -/
import Derived.Test.YtldcljfjjoidhaaGreatDoorAmKG
set_option linter.all false
namespace Go.Am
open Go
section
variable {E:Env} {s t:St} {f:FuncId} {ops:Array Oper} {o oj oi:Oper} {d:Tmp} {x:SV} {K K':St→Prop} {cU:Nat→List Nat} {C:List Nat}
def Ga (E:Env) (f:FuncId) (ops:Array Oper) (cU:Nat→List Nat) (C:List Nat) (i:Nat) (s:St):Prop:=
 ∀ j∈C,∀ oj oi,ops[j]?=some oj→ops[i]?=some oi→iB oj oi=true→j∉cU i→Db E f ops.toList oj s
def NC (ops:Array Oper) (C:List Nat):Prop:=∀ j∈C,∀ oj,ops[j]?=some oj→q7 oj.op=true
theorem oa {i:Nat} (hC:NC ops C):Inv (Ga E f ops cU C i):=fun _ _ e h j hj oj oi h1 h2 h3 h4=>LB (hC j hj oj h1) e (h j hj oj oi h1 h2 h3 h4)
def eM (E:Env) (f:FuncId) (ops:Array Oper) (cU:Nat→List Nat) (C:List Nat) (K:St→Prop):Nat→Array Bool→St→Prop
 | 0,listed,s=>Region.ready .any ops listed=[]∧K s
 | n+1,listed,s=>(Region.ready .any ops listed=[]→K s) ∧
   ∀ i∈Region.ready .any ops listed,∀ oi,ops[i]?=some oi→b6 E f ops.toList oi (fun s'=>Ga E f ops cU C i s'∧eM E f ops cU C K n (listed.setIfInBounds i true) s') s
theorem gy (hC:NC ops C) (hK:Inv K):∀ n listed,Inv (eM E f ops cU C K n listed)
 | 0,_=>fun s t e h=>⟨h.1,hK s t e h.2⟩
 | n+1,_=>fun s t e h=>⟨fun h0=>hK s t e (h.1 h0),fun i hi oi qD=>A4 (fun s t e h=>⟨oa hC s t e h.1,gy hC hK n _ s t e h.2⟩) s t e (h.2 i hi oi qD)⟩
theorem mb {C':List Nat}:∀ n (listed:Array Bool) (s:St),
  (∀ k∈C',k∈C∨∀ i ok oi,ops[k]?=some ok→ops[i]?=some oi→listed.getD i true=false→iB ok oi=true→k∈cU i) →
  eM E f ops cU C K n listed s→eM E f ops cU C' K n listed s
 | 0,_,_,_,h=>h
 | n+1,listed,s,hk,h=>⟨h.1,fun i hi oi qD=>b7 (h.2 i hi oi qD) fun s' h'=>⟨fun k Q3 ok PH h1 h2 h3 h4=>by
   rcases hk k Q3 with h5 | h5
   ·exact h'.1 k h5 ok PH h1 h2 h3 h4
   ·exact absurd (h5 i ok PH h1 h2 (mem_ready.1 hi).1 h3) h4,mb n _ s' (fun k Q3=>by
   rcases hk k Q3 with h5 | h5
   ·exact .inl h5
   ·refine .inr fun i' ok PH h1 h2 h3 h4=>h5 i' ok PH h1 h2 ?_ h4
    by_cases e:i=i'
    ·subst e; exact (mem_ready.1 hi).1
    ·rw [getD_set_ne true e] at h3; exact h3) h'.2⟩⟩
def yf (ops:Array Oper) (cU:Nat→List Nat):Prop:=∀ i oi a,ops[i]?=some oi→a∈cU i→∃ e∈oi.after,Region.binds .any e=true∧(e.on=a∨a∈cU e.on)
def mc (cU:Nat→List Nat) (listed:Array Bool):Prop:=∀ i,listed.getD i false=true→∀ a∈cU i,listed.getD a false=true
theorem mc.ready {listed:Array Bool} (h:mc cU listed) (ha:yf ops cU) {i:Nat} (hi:i∈Region.ready .any ops listed):∀ a∈cU i,listed.getD a false=true:=fun a XA=>by
 obtain ⟨_,o,ho,mD⟩:=mem_ready.1 hi
 obtain ⟨e,he,hb,h2⟩:=ha i o a ho XA
 rcases h2 with rfl | h2
 ·exact mD e he hb
 ·exact h _ (mD e he hb) a h2
theorem iV {listed:Array Bool} {i:Nat} (h:listed.getD i false=true):listed.getD i true=true:=by
 rw [Array.getD_eq_getD_getElem?] at *
 cases hl:listed[i]? with
 | none=>rw [hl] at h; cases h
 | some b=>rw [hl] at h; exact h
theorem mc.add {listed:Array Bool} (h:mc cU listed) (ha:yf ops cU) {i:Nat} (hi:i∈Region.ready .any ops listed):mc cU (listed.setIfInBounds i true):=fun k hk a XA=>by
 by_cases e:i=k
 ·subst e
  exact getD_set_true (h.ready ha hi a XA)
 ·rw [getD_set_ne false e] at hk
  exact getD_set_true (h k hk a XA)
theorem Dh (hA:yf ops cU) (hC:NC ops C) (hK:Inv K) {j:Nat} (hj:ops[j]?=some oj) (hN:q7 oj.op=true) (EC:oj.dst=some d) (A6:d∉oj.looksAt ops)
  (YW:∀ k∈C,∀ ok,ops[k]?=some ok→d∉ok.looksAt ops∧ok.dst≠some d):∀ n (listed:Array Bool) (s:St) (x:SV),mc cU listed →
   (∀ i oi,ops[i]?=some oi→i≠j→listed.getD i true=false→(∀ e∈oi.after,Region.binds .any e=true→e.on≠j)→oj.apart ops oi=true) →
   j∈Region.ready .any ops listed→va E f ops oj s x→eM E f ops cU (j :: C) K n (listed.setIfInBounds j true) (s.put (some d) x)→eM E f ops cU C K (n+1) listed s:=by
 have La:NC ops (j :: C):=fun k hk ok ho=>by
  rcases List.mem_cons.1 hk with rfl | hk
  ·rw [hj] at ho; cases ho; exact hN
  ·exact hC k hk ok ho
 have self:∀ n (listed:Array Bool) (s:St) (x:SV),va E f ops oj s x→eM E f ops cU (j :: C) K n (listed.setIfInBounds j true) (s.put (some d) x)→∀ oi,ops[j]?=some oi →
   b6 E f ops.toList oi (fun s'=>Ga E f ops cU C j s'∧eM E f ops cU C K n (listed.setIfInBounds j true) s') s:=fun n listed s x hx h oi qD=>by
  rw [hj] at qD
  cases qD
  refine vc hN (fun s t e h=>⟨oa hC s t e h.1,gy hC hK _ _ s t e h.2⟩) hx ?_
  rw [EC]
  refine ⟨fun k _ ok PH _ h2 h3 _=>?_,mb n _ _ (fun k hk=>.inl (List.mem_cons_of_mem _ hk)) h⟩
  rw [hj] at h2
  cases h2
  simp [iB,A2 hN,hN] at h3
 intro n
 induction n with
 | zero=>
  intro listed s x _ _ hr hx h
  refine ⟨fun h0=>by rw [h0] at hr; simp at hr,fun i hi oi qD=>?_⟩
  by_cases e:i=j
  ·subst e; exact self 0 listed s x hx h oi qD
  ·have:=ready_mono hi e
   rw [h.1] at this
   simp at this
 | succ n ih=>
  intro listed s x iA iy hr hx h
  refine ⟨fun h0=>by rw [h0] at hr; simp at hr,fun i hi oi qD=>?_⟩
  by_cases e:i=j
  ·subst e; exact self (n+1) listed s x hx h oi qD
  ·have H9:=(mem_ready.1 hi).1
   have LG:=(mem_ready.1 hr).1
   have QD:∀ ed∈oi.after,Region.binds .any ed=true→ed.on≠j:=fun ed he hb iZ=>by
    obtain ⟨_,o,ho,mD⟩:=mem_ready.1 hi
    rw [qD] at ho
    cases ho
    have h1:=iV (mD ed he hb)
    rw [iZ,LG] at h1
    cases h1
   have Uj:=iy i oi qD e H9 QD
   have hG:=h.2 i (ready_mono hi e) oi qD
   have Ia:j∉cU i:=fun hm=>by
    have h1:=iV (iA.ready hA hi j hm)
    rw [LG] at h1
    cases h1
   have XB:Inv (fun s'=>Ga E f ops cU (j :: C) i s'∧eM E f ops cU (j :: C) K n ((listed.setIfInBounds j true).setIfInBounds i true) s'):=
    fun s t e h=>⟨oa La s t e h.1,gy La hK _ _ s t e h.2⟩
   have Q4:∀ k ok,ops[k]?=some ok→k≠j→(listed.setIfInBounds i true).getD k true=false→(∀ e∈ok.after,Region.binds .any e=true→e.on≠j)→oj.apart ops ok=true:=fun k ok hk YX Vw rH=>by
    refine iy k ok hk YX ?_ rH
    by_cases e':i=k
    ·subst e'; exact H9
    ·rw [getD_set_ne true e'] at Vw; exact Vw
   have core:∀ {pre:a6} {preB:cp} {G:List GO},Uh (bN oi.op) oi.dst pre→(q7 oi.op=true→preB=[]∧G=s.G) →
     (Ga E f ops cU (j :: C) i ((s.put (some d) x).eC pre preB G)∧eM E f ops cU (j :: C) K n ((listed.setIfInBounds j true).setIfInBounds i true) ((s.put (some d) x).eC pre preB G)) →
     Ga E f ops cU C i (s.eC pre preB G)∧eM E f ops cU C K (n+1) (listed.setIfInBounds i true) (s.eC pre preB G):=by
    intro pre preB G xm Vv hk
    obtain ⟨x',qf,gS⟩:=F5 hN EC A6 Uj XB hx xm Vv hk (fun t' A8 hd=>A8.1 j (List.mem_cons_self ..) oj oi hj qD hd Ia)
    refine ⟨fun k Q3 ok PH h1 h2 h3 h4=>?_,?_⟩
    ·obtain ⟨q1,q2⟩:=YW k Q3 ok h1
     obtain ⟨b1,b2,b3,_⟩:=fa (s.eC pre preB G) (some d) x'
     exact LA (hC k Q3 ok h1) q1 q2 (fun e he=>tL _ _ _ he) (by rw [b1]) b2 b3 (gS.1 k (List.mem_cons_of_mem _ Q3) ok PH h1 h2 h3 h4)
    ·refine ih (listed.setIfInBounds i true) _ x' (iA.add hA hi) Q4 (ready_mono hr (Ne.symm e)) qf ?_
     rw [Array.setIfInBounds_comm _ _ e]
     exact gS.2
   rw [e9 (fun s t e h=>⟨oa hC s t e h.1,gy hC hK _ _ s t e h.2⟩)]
   obtain ⟨Cg,_,_⟩:=Oper.apart_spec Uj
   have sB:∀ e∈oi.looksAt ops,lk (s.put (some d) x).ae e=lk s.ae e:=fun e he=>tL s d x fun k=>Cg d EC (k ▸ he)
   obtain ⟨b1,b2,b3,b4,b5⟩:=fa s (some d) x
   rcases (e9 XB).1 hG with ⟨h1,h2⟩ | ⟨h1,h2⟩
   ·refine .inl ⟨by rw [← js sB]; exact h1,rN b3 b2 (by rw [b1]) (jE sB) h2 fun pre preB G hp Vv hk=>core hp (fun hh=>?_) hk⟩
    obtain ⟨q1,q2⟩:=Vv hh
    exact ⟨q1,by rw [q2,b2]⟩
   ·refine .inr ⟨by rw [← js sB]; exact h1,?_⟩
    obtain ⟨pre,preB,G,p1,p2,p3,p4⟩:=bI.put (s:=s.put (some d) x) (t:=s) (al:=bN oi.op) (w:=false) b3 b2 oi.dst (.v eR)
    obtain ⟨q1,q2,_⟩:=p2 rfl
    rw [p3] at h2
    rw [p4]
    exact core p1 (fun _=>⟨q1,by rw [q2,b2]⟩) h2
theorem EF {i:Nat} {s:St}:Ga E f ops cU [] i s:=fun j hj=>by cases hj
theorem Q5 {y:Operand} {k off:Nat} (h:bw E s.ae y=.lp k off):∃ e,y=.tmp e∧lk s.ae e=.lp k off:=by
 cases y with
 | tmp e=>exact ⟨e,rfl,h⟩
 | const v=>simp only [bw] at h; split at h <;> cases h
 | global g=>simp only [bw] at h; split at h <;> cases h
 | func g=>cases h
theorem Ib (hA:yf ops cU) (hK:Inv K) {j:Nat} (hj:ops[j]?=some oj) (hg:oj.guard=none) (EC:oj.dst=some d) (tz:bN oj.op=true) (Q6:E.wW f d=false):∀ n (listed:Array Bool) (s s1:St),mc cU listed →
  (∀ i oi,ops[i]?=some oi→i≠j→listed.getD i true=false→j∉cU i→oj.apart ops oi=true∧∀ e∈oi.looksAt ops,∀ off,lk s.ae e≠.lp d off) →
  j∈Region.ready .any ops listed→ap E f s oj=some (true,s1)→eM E f ops cU [] K n (listed.setIfInBounds j true) s1→eM E f ops cU [] K (n+1) listed s:=by
 have La:NC ops []:=fun k hk=>by cases hk
 have self:∀ n (listed:Array Bool) (s s1:St),ap E f s oj=some (true,s1)→eM E f ops cU [] K n (listed.setIfInBounds j true) s1→∀ oi,ops[j]?=some oi →
   b6 E f ops.toList oi (fun s'=>Ga E f ops cU [] j s'∧eM E f ops cU [] K n (listed.setIfInBounds j true) s') s:=fun n listed s s1 hx h oi qD=>by
  rw [hj] at qD
  cases qD
  unfold b6
  rw [hg]
  exact (EE tz).2 ⟨s1,hx,EF,h⟩
 intro n
 induction n with
 | zero=>
  intro listed s s1 _ _ hr hx h
  refine ⟨fun h0=>by rw [h0] at hr; simp at hr,fun i hi oi qD=>?_⟩
  by_cases e:i=j
  ·subst e; exact self 0 listed s s1 hx h oi qD
  ·have:=ready_mono hi e
   rw [h.1] at this
   simp at this
 | succ n ih=>
  intro listed s s1 iA iy hr hx h
  refine ⟨fun h0=>by rw [h0] at hr; simp at hr,fun i hi oi qD=>?_⟩
  by_cases e:i=j
  ·subst e; exact self (n+1) listed s s1 hx h oi qD
  ·have H9:=(mem_ready.1 hi).1
   have LG:=(mem_ready.1 hr).1
   have Ia:j∉cU i:=fun hm=>by
    have h1:=iV (iA.ready hA hi j hm)
    rw [LG] at h1
    cases h1
   obtain ⟨Uj,rH⟩:=iy i oi qD e H9 Ia
   obtain ⟨Cg,cw,AG⟩:=Oper.apart_spec Uj
   have H6:oi.dst≠some d:=cw d EC
   obtain ⟨_,cs,rfl,Ev⟩:=Df tz EC Q6 hx
   have hG:=h.2 i (ready_mono hi e) oi qD
   have XB:Inv (fun s'=>Ga E f ops cU [] i s'∧eM E f ops cU [] K n ((listed.setIfInBounds j true).setIfInBounds i true) s'):=
    fun s t e h=>⟨oa La s t e h.1,gy La hK _ _ s t e h.2⟩
   have F9:∀ y∈oi.op.operands,∀ off,bw E s.ae y≠.lp d off:=fun y hy off hv=>by
    obtain ⟨e',rfl,hv⟩:=Q5 hv
    exact rH e' (ma hy) off hv
   have core:∀ {pre:a6} {preB:cp} {G:List GO},gJ E s oi (s.eC pre preB G) →
     (Ga E f ops cU [] i ((pD s d cs).eC pre preB G)∧eM E f ops cU [] K n ((listed.setIfInBounds j true).setIfInBounds i true) ((pD s d cs).eC pre preB G)) →
     Ga E f ops cU [] i (s.eC pre preB G)∧eM E f ops cU [] K (n+1) (listed.setIfInBounds i true) (s.eC pre preB G):=by
    intro pre preB G LF hk
    refine ⟨EF,?_⟩
    obtain ⟨o1,o2⟩:=ED LF
    have sB:∀ e' off,oi.dst≠some e'∨lk (s.eC pre preB G).ae e'=.lp d off→lk (s.eC pre preB G).ae e'=.lp d off→lk s.ae e'=.lp d off:=by
     intro e' off _ hv
     have hv:lk (pre++s.ae) e'=.lp d off:=hv
     rcases o1 with rfl | ⟨d',x,Ei,hp,Vx⟩
     ·exact hv
     ·have qf:∀ off,x≠.lp d off:=fun off c=>by
       rcases Vx d off c with ⟨y,hy,eT,ho⟩ | ⟨_,h⟩
       ·exact F9 y hy eT ho
       ·exact H6 (by rw [Ei,h])
      by_cases c2:d'=e'
      ·subst c2
       rcases hp with rfl | rfl
       ·simp only [List.cons_append,List.nil_append,ax] at hv; exact absurd hv (qf off)
       ·simp only [List.cons_append,List.nil_append,ax] at hv; exact absurd hv (qf off)
      ·rcases hp with rfl | rfl
       ·simp only [List.cons_append,List.nil_append] at hv; rwa [aK c2] at hv
       ·simp only [List.cons_append,List.nil_append] at hv
        rw [aK c2,iC] at hv
        cases hl:lk s.ae e' with
        | lp k eT=>
         rw [hl] at hv
         simp only at hv
         cases hb:Nat.beq k d' with
         | true=>rw [hb] at hv; cases hv
         | false=>rw [hb] at hv; exact hv
        | v a=>rw [hl] at hv; cases hv
        | none=>rw [hl] at hv; cases hv
    refine ih (listed.setIfInBounds i true) _ _ (iA.add hA hi) ?_ (ready_mono hr (Ne.symm e)) (Ev (s.eC pre preB G) rfl ?_) ?_
    ·intro k ok gS YX Vw YY
     have YZ:listed.getD k true=false:=by
      by_cases e':i=k
      ·subst e'; exact H9
      ·rw [getD_set_ne true e'] at Vw; exact Vw
     obtain ⟨q1,q2⟩:=iy k ok gS YX YZ YY
     exact ⟨q1,fun e' XC off hv=>q2 e' XC off (sB e' off (.inr hv) hv)⟩
    ·intro y hy v hv
     cases y with
     | tmp e'=>
      have Ei:oi.dst≠some e':=fun c=>AG e' c (ma hy)
      have hv:lk s.ae e'=.v v:=hv
      show lk (pre++s.ae) e'=.v v
      rcases o1 with rfl | ⟨d',x,Vo,hp,_⟩
      ·exact hv
      ·have c2:d'≠e':=fun c=>Ei (by rw [Vo,c])
       rcases hp with rfl | rfl
       ·simp only [List.cons_append,List.nil_append]; rw [aK c2]; exact hv
       ·simp only [List.cons_append,List.nil_append]
        rw [aK c2,vf (fun off=>by rw [hv]; intro c; cases c)]; exact hv
     | const _=>exact hv
     | global _=>exact hv
     | func _=>exact hv
    ·rw [Array.setIfInBounds_comm _ _ e]
     exact gy La hK _ _ _ _ (F8 cs LF H6 F9) hk.2
   have zn:∀ e'∈oi.looksAt ops,lk (pD s d cs).ae e'=lk s.ae e':=fun e' XC=>by
    have c1:d≠e':=fun c=>Cg d EC (c ▸ XC)
    show lk (.put d (.lp d 0) :: .kill d :: s.ae) e'=_
    rw [aK c1,vf (rH e' XC)]
   have CL:∀ k off,(∃ y∈oi.op.operands,bw E (pD s d cs).ae y=.lp k off)→dc (pD s d cs).boxes k=dc s.boxes k:=by
    rintro k off ⟨y,hy,hv⟩
    rw [jE zn y hy] at hv
    have KZ:d≠k:=fun c=>F9 y hy off (by rw [c]; exact hv)
    show dc ((d,cs) :: s.boxes) k=dc s.boxes k
    simp only [dc]
    cases hb:Nat.beq d k with
    | true=>exact absurd (Nat.eq_of_beq_eq_true hb) KZ
    | false=>rfl
   rw [e9 (fun s t e h=>⟨oa La s t e h.1,gy La hK _ _ s t e h.2⟩)]
   rcases (e9 XB).1 hG with ⟨h1,h2⟩ | ⟨h1,h2⟩
   ·exact .inl ⟨by rw [← js zn]; exact h1,Dg (s:=pD s d cs) (t:=s) rfl rfl CL (jE zn) h2 fun pre preB G hO hk=>core hO hk⟩
   ·refine .inr ⟨by rw [← js zn]; exact h1,?_⟩
    obtain ⟨pre,preB,G,p1,p2,p3,p4⟩:=bI.put (s:=pD s d cs) (t:=s) (al:=bN oi.op) (w:=false) rfl rfl oi.dst (.v eR)
    rw [p3] at h2
    have hO:gJ E s oi (s.put oi.dst (.v eR)):=jF rfl rfl _
    rw [p4] at hO ⊢
    exact core hO h2
end
inductive DT where
 | done
 | take (j:Nat) (C:List Nat) (t:DT)
 | br (i:Nat) (re C:List Nat) (t:DT) (more:DT)
 | stop
 | al (j:Nat) (W:List Nat) (t:DT)
structure me where
 dst:Option Tmp
 lo:List Tmp
 pr:List Nat
 n:Bool
 r:Bool
 a:Bool
def EG (d:Nat) (s:a6):List Nat→Bool
 | []=>true
 | e :: l=>(match lk s e with
  | .lp k _=>!Nat.beq k d
  | _=>true)&&EG d s l
def Q7 (E:Env) (f:FuncId) (o:Oper) (W:List Nat) (s:St):Bool:=match o.guard,o.dst with
 | none,some d=>!E.wW f d&&EG d s.ae W
 | _,_=>false
def iW (x:Nat):List Nat→Bool
 | []=>false
 | y :: l=>Nat.beq x y || iW x l
def od:List Edge→List Nat
 | []=>[]
 | e :: l=>bif Region.binds .any e then e.on :: od l else od l
def jG (ops:Array Oper) (o:Oper):me:=⟨o.dst,o.looksAt ops,od o.after.toList,q7 o.op,Q2 o.op,bN o.op⟩
def zo {α:Type} (n:Nat) (K:Nat→α):α:=match n with
 | 0=>K 0
 | m+1=>K (Nat.succ m)
def yg {α:Type}:List Nat→(List Nat→α)→α
 | [],K=>K []
 | a :: l,K=>zo a fun a=>yg l fun l=>K (a :: l)
def Q8 {α:Type} (i:me) (K:me→α):α:=match i with
 | ⟨d,lo,pr,n,r,a⟩=>yg lo fun lo=>yg pr fun pr=>(match d with
  | none=>(fun (K:Option Tmp→α)=>K none)
  | some d=>(fun (K:Option Tmp→α)=>zo d fun d=>K (some d))) fun d=>(bif n then (fun (K:Bool→α)=>K true) else fun K=>K false) fun n=>
   (bif r then (fun (K:Bool→α)=>K true) else fun K=>K false) fun r=>(bif a then (fun (K:Bool→α)=>K true) else fun K=>K false) fun a=>K ⟨d,lo,pr,n,r,a⟩
def EH {α:Type}:List me→(List me→α)→α
 | [],K=>K []
 | i :: l,K=>Q8 i fun i=>EH l fun l=>K (i :: l)
def rP (x y:me):Bool:=
 (match x.dst with
 | some d=>!iW d y.lo&&(match y.dst with | some e=>!Nat.beq e d | none=>true)
 | none=>true) &&
 (match y.dst with
 | some d=>!iW d x.lo
 | none=>true)
def A9 (j:Nat) (x:me) (cf:List Nat):Nat→List me→Bool
 | _,[]=>true
 | i,y :: l=>(Nat.beq i j || iW j y.pr || iW i cf || rP x y)&&A9 j x cf (i+1) l
def Ba (I:List me):Nat→List me→List (List Nat)→Bool
 | _,[],_=>true
 | j,x :: l,c :: cs=>(!x.n || A9 j x c 0 I)&&Ba I (j+1) l cs
 | _,_,_=>false
def vg (cU:Nat→List Nat):Nat→List me→Bool
 | _,[]=>true
 | i,x :: l=>(cU i).all (fun a=>x.pr.any fun e=>Nat.beq e a || iW a (cU e))&&vg cU (i+1) l
def mf (L:Nat):Nat→List me→List Nat
 | _,[]=>[]
 | i,x :: l=>bif !L.testBit i&&x.pr.all (fun e=>L.testBit e) then i :: mf L (i+1) l else mf L (i+1) l
def oe (x y:me):Bool:=y.a || (x.r&&!y.n)
def og (cU:Nat→List Nat) (L k:Nat) (x:me):Nat→List me→Bool
 | _,[]=>true
 | i,y :: l=>(L.testBit i || !oe x y || iW k (cU i))&&og cU L k x (i+1) l
def tM (I:List me) (cU:Nat→List Nat) (L:Nat) (C C':List Nat):Bool:=C.all fun k=>iW k C' || match nth I k with
 | none=>false
 | some x=>og cU L k x 0 I
def PI (I:List me) (cU:Nat→List Nat) (C re:List Nat) (i:Nat) (y:me):Bool:=C.all fun k=>iW k re || match nth I k with
 | none=>false
 | some x=>!oe x y || iW k (cU i)
def EI (cU:Nat→List Nat) (L:Nat) (W:List Nat) (j:Nat) (x:me):Nat→List me→Bool
 | _,[]=>true
 | i,y :: l=>(Nat.beq i j || L.testBit i || iW j (cU i) || (rP x y&&y.lo.all fun e=>iW e W))&&EI cU L W j x (i+1) l
def EJ (I:List me) (C:List Nat):Bool:=C.all fun k=>match nth I k with
 | some x=>x.n
 | none=>false
def kf (I:List me) (N:Nat) (cU:Nat→List Nat) (cf:List (List Nat)):DT→Nat→List Nat→Nat→Option (List Nat)→Bool
 | .done,_,_,L,none=>Nat.beq L N
 | .take j C' t,n+1,C,L,none=>match nth I j,nth cf j with
  | some x,some c=>match x.dst with
   | none=>false
   | some d=>x.n&&!iW d x.lo&&(C.all fun k=>match nth I k with
     | none=>false
     | some y=>!iW d y.lo&&(match y.dst with | some e=>!Nat.beq e d | none=>true)) &&
    c.all (fun i=>L.testBit i)&&!L.testBit j&&x.pr.all (fun e=>L.testBit e)&&EJ I C' &&
    zo (L ||| 2 ^ j) fun L'=>tM I cU L' (j :: C) C'&&kf I N cU cf t n C' L' none
  | _,_=>false
 | .br i re C' t more,n+1,C,L,left=>match nth I i with
  | none=>false
  | some y=>(match left with
   | none=>fun (K:List Nat→Bool)=>yg (mf L 0 I) K
   | some l=>fun K=>K l) fun l=>
    PI I cU C re i y&&EJ I C'&&iW i l&&(zo (L ||| 2 ^ i) fun L'=>tM I cU L' C C'&&kf I N cU cf t n C' L' none) &&
     kf I N cU cf more (n+1) C L (some (l.filter fun k=>!Nat.beq k i))
 | .stop,_,_,_,some l=>l.isEmpty
 | .al j W t,n+1,C,L,none=>match nth I j with
  | some x=>match x.dst with
   | none=>false
   | some _=>C.isEmpty&&x.a&&!L.testBit j&&x.pr.all (fun e=>L.testBit e)&&EI cU L W j x 0 I&&zo (L ||| 2 ^ j) fun L'=>kf I N cU cf t n [] L' none
  | none=>false
 | _,_,_,_,_=>false
def yh (E:Env) (f:FuncId) (ops:List Oper):List Nat→St→Prop
 | [],_=>True
 | k :: l,s=>(match nth ops k with
  | some ok=>Db E f ops ok s
  | none=>True)∧yh E f ops l s
def q8 (E:Env) (f:FuncId) (ops:List Oper):DT→(St→Prop)→St→Prop
 | .done,K,s=>K s
 | .take j _ t,K,s=>match nth ops j with
  | some oj=>b6 E f ops oj (q8 E f ops t K) s
  | none=>False
 | .br i re _ t more,K,s=>(match nth ops i with
  | some oi=>b6 E f ops oi (fun s'=>yh E f ops re s'∧q8 E f ops t K s') s
  | none=>False)∧q8 E f ops more K s
 | .stop,_,_=>True
 | .al j W t,K,s=>match nth ops j with
  | some oj=>Q7 E f oj W s=true∧b6 E f ops oj (q8 E f ops t K) s
  | none=>False
def Ic (l:List (List Nat)) (i:Nat):List Nat:=match nth l i with
 | some a=>a
 | none=>[]
section
variable {E:Env} {s t:St} {f:FuncId} {ops:Array Oper} {K:St→Prop} {cU:Nat→List Nat}
theorem dU {x:Nat}:∀ {l:List Nat},iW x l=true↔x∈l
 | []=>by simp [iW]
 | y :: l=>by simp [iW,dU (l:=l)]
theorem mg {α:Type} (n:Nat) (K:Nat→α):zo n K=K n:=by cases n <;> rfl
theorem vh {α:Type}:∀ (l:List Nat) (K:List Nat→α),yg l K=K l
 | [],_=>rfl
 | a :: l,K=>by simp only [yg,mg]; rw [vh]
theorem LH {α:Type} (i:me) (K:me→α):Q8 i K=K i:=by
 obtain ⟨d,lo,pr,n,r,a⟩:=i
 cases d <;> cases n <;> cases r <;> cases a <;> simp [Q8,vh,mg]
theorem Bb {α:Type}:∀ (l:List me) (K:List me→α),EH l K=K l
 | [],_=>rfl
 | a :: l,K=>by simp only [EH,LH]; rw [Bb]
def jH (ops:Array Oper):List me:=ops.toList.map (jG ops)
theorem qE {k:Nat} {x:me} (h:nth (jH ops) k=some x):∃ o,ops[k]?=some o∧x=jG ops o:=by
 rw [aX,jH,List.getElem?_map,Array.getElem?_toList] at h
 cases ho:ops[k]? with
 | none=>rw [ho] at h; cases h
 | some o=>rw [ho] at h; exact ⟨o,rfl,by simpa using h.symm⟩
theorem hU {e:Nat}:∀ {l:List Edge},e∈od l↔∃ ed∈l,Region.binds .any ed=true∧ed.on=e
 | []=>by simp [od]
 | x :: l=>by
  unfold od
  cases hb:Region.binds .any x with
  | true=>
   simp only [cond_true,List.mem_cons,hU (l:=l),exists_eq_or_imp,hb,true_and]
   constructor
   ·rintro (h | h)
    ·exact .inl h.symm
    ·exact .inr h
   ·rintro (h | h)
    ·exact .inl h.symm
    ·exact .inr h
  | false=>simp only [cond_false,List.mem_cons,hU (l:=l),exists_eq_or_imp,hb,false_and,false_or,Bool.false_eq_true]
theorem yi {x y:Oper} (h:rP (jG ops x) (jG ops y)=true):x.apart ops y=true:=by
 have hm:∀ (d:Nat) (l:List Nat),iW d l=false→l.contains d=false:=fun d l h=>by
  cases hc:l.contains d with
  | false=>rfl
  | true=>rw [dU.2 (by simpa using hc)] at h; cases h
 unfold rP at h
 unfold Oper.apart
 simp only [jG,Bool.and_eq_true] at h ⊢
 refine ⟨?_,?_⟩
 ·cases hx:x.dst with
  | none=>rfl
  | some d=>
   rw [hx] at h
   simp only [Bool.and_eq_true,Bool.not_eq_true'] at h ⊢
   refine ⟨hm _ _ h.1.1,?_⟩
   have h2:=h.1.2
   cases hy:y.dst with
   | none=>rfl
   | some e=>
    rw [hy] at h2
    simp only [Bool.not_eq_true'] at h2
    have:e≠d:=fun k=>by rw [k,qc] at h2; cases h2
    simpa using this
 ·cases hy:y.dst with
  | none=>rfl
  | some d=>
   rw [hy] at h
   simp only [Bool.not_eq_true'] at h ⊢
   exact hm _ _ h.2
def Bc (ops:Array Oper) (L:Nat) (listed:Array Bool):Prop:=listed.size=ops.size∧∀ i,i < ops.size→listed[i]?=some (L.testBit i)
theorem Bc.add {L:Nat} {listed:Array Bool} (h:Bc ops L listed) (j:Nat):Bc ops (L ||| 2 ^ j) (listed.setIfInBounds j true):=by
 refine ⟨by simp [h.1],fun i hi=>?_⟩
 rw [Nat.testBit_or,Nat.testBit_two_pow]
 by_cases e:j=i
 ·subst e
  rw [Array.getElem?_setIfInBounds_self_of_lt (by rw [h.1]; exact hi)]
  simp
 ·rw [Array.getElem?_setIfInBounds_ne e,h.2 i hi]
  simp [e]
theorem Bc.Bd {L:Nat} {listed:Array Bool} (h:Bc ops L listed) {i:Nat} (hi:i < ops.size) (b:Bool):listed.getD i b=L.testBit i:=by
 rw [Array.getD_eq_getD_getElem?,h.2 i hi]; rfl
theorem pE {L:Nat} {listed:Array Bool} (h:Bc ops L listed) {j:Nat} {o:Oper} (ho:ops[j]?=some o) (h1:L.testBit j=false) (h2:((jG ops o).pr.all fun e=>L.testBit e)=true)
  (bP:∀ e∈o.after,Region.binds .any e=true→e.on < ops.size):j∈Region.ready .any ops listed:=by
 have hj:j < ops.size:=(Array.getElem?_eq_some_iff.1 ho).1
 refine mem_ready.2 ⟨by rw [h.Bd hj]; exact h1,o,ho,fun e he hb=>?_⟩
 rw [h.Bd (bP e he hb)]
 exact List.all_eq_true.1 h2 e.on (hU.2 ⟨e,by simpa using he,hb,rfl⟩)
def Q9 (n:Nat) (I:List me):Bool:=I.all fun x=>x.pr.all fun e=>Nat.blt e n
theorem fR {k:Nat} {o:Oper} (h:ops[k]?=some o):nth (jH ops) k=some (jG ops o):=by
 rw [aX,jH,List.getElem?_map,Array.getElem?_toList,h]; rfl
theorem jI {k:Nat} {o:Oper} (h:ops[k]?=some o):(jH ops)[k]?=some (jG ops o):=by
 rw [← aX]; exact fR h
theorem oh (h:Q9 ops.size (jH ops)=true) {k:Nat} {o:Oper} (ho:ops[k]?=some o):∀ e∈o.after,Region.binds .any e=true→e.on < ops.size:=fun e he hb=>by
 have h1:=List.all_eq_true.1 h (jG ops o) (List.mem_of_getElem? (jI ho))
 have h2:=List.all_eq_true.1 h1 e.on (hU.2 ⟨e,by simpa using he,hb,rfl⟩)
 exact Nat.le_of_ble_eq_true h2
theorem vi {j:Nat} {x:me} {c:List Nat}:∀ {l:List me} {i:Nat},A9 j x c i l=true→∀ k y,l[k]?=some y→(Nat.beq (i+k) j || iW j y.pr || iW (i+k) c || rP x y)=true
 | [],_,_,k,y,hk=>by simp at hk
 | z :: l,i,h,k,y,hk=>by
  unfold A9 at h
  rw [Bool.and_eq_true] at h
  cases k with
  | zero=>simp at hk; subst hk; exact h.1
  | succ k=>
   have:=vi h.2 k y (by simpa using hk)
   rw [show i+1+k=i+(k+1) by omega] at this
   exact this
theorem vj {I:List me}:∀ {l:List me} {j:Nat} {cs:List (List Nat)},Ba I j l cs=true→∀ k x c,l[k]?=some x→cs[k]?=some c→x.n=true→A9 (j+k) x c 0 I=true
 | [],_,_,_,k,x,c,hk,_,_=>by simp at hk
 | z :: l,j,[],_,k,x,c,_,hc,_=>by simp at hc
 | z :: l,j,d :: cs,h,k,x,c,hk,hc,hn=>by
  unfold Ba at h
  rw [Bool.and_eq_true] at h
  cases k with
  | zero=>
   simp at hk hc
   subst hk hc
   have:=h.1
   rw [hn] at this
   simpa using this
  | succ k=>
   have:=vj h.2 k x c (by simpa using hk) (by simpa using hc) hn
   rw [show j+1+k=j+(k+1) by omega] at this
   exact this
theorem sP:∀ {l:List me} {i:Nat},vg cU i l=true→∀ k x,l[k]?=some x→∀ a∈cU (i+k),∃ e∈x.pr,e=a∨a∈cU e
 | [],_,_,k,x,hk=>by simp at hk
 | z :: l,i,h,k,x,hk=>by
  unfold vg at h
  rw [Bool.and_eq_true] at h
  cases k with
  | zero=>
   simp at hk
   subst hk
   intro a ha
   have h1:=List.all_eq_true.1 h.1 a ha
   obtain ⟨e,he,h2⟩:=List.any_eq_true.1 h1
   rw [Bool.or_eq_true] at h2
   refine ⟨e,he,?_⟩
   rcases h2 with h2 | h2
   ·exact .inl (Nat.eq_of_beq_eq_true h2)
   ·exact .inr (dU.1 h2)
  | succ k=>
   have:=sP h.2 k x (by simpa using hk)
   rw [show i+1+k=i+(k+1) by omega] at this
   exact this
theorem Di (h:vg cU 0 (jH ops)=true):yf ops cU:=fun i oi a hi ha=>by
 have h1:=sP h i _ (jI hi) a (by rw [Nat.zero_add]; exact ha)
 obtain ⟨e,he,h2⟩:=h1
 obtain ⟨ed,q1,q2,rfl⟩:=hU.1 he
 exact ⟨ed,by simpa using q1,q2,h2⟩
theorem ni {L:Nat}:∀ {l:List me} {i k:Nat},k∈mf L i l↔∃ j x,k=i+j∧l[j]?=some x∧L.testBit k=false∧(x.pr.all fun e=>L.testBit e)=true
 | [],i,k=>by simp [mf]
 | z :: l,i,k=>by
  have ih:=ni (L:=L) (l:=l) (i:=i+1) (k:=k)
  have rest:(∃ j x,k=i+1+j∧l[j]?=some x∧L.testBit k=false∧(x.pr.all fun e=>L.testBit e)=true)↔∃ j x,k=i+(j+1)∧(z :: l)[j+1]?=some x∧L.testBit k=false∧(x.pr.all fun e=>L.testBit e)=true:=by
   constructor
   ·rintro ⟨j,x,h1,h2⟩; exact ⟨j,x,by omega,by simpa using h2⟩
   ·rintro ⟨j,x,h1,h2⟩; exact ⟨j,x,by omega,by simpa using h2⟩
  unfold mf
  cases hc:(!L.testBit i&&z.pr.all fun e=>L.testBit e) with
  | true=>
   simp only [cond_true,List.mem_cons,ih,rest]
   rw [Bool.and_eq_true,Bool.not_eq_true'] at hc
   constructor
   ·rintro (rfl | ⟨j,x,h⟩)
    ·exact ⟨0,z,rfl,rfl,hc⟩
    ·exact ⟨j+1,x,h⟩
   ·rintro ⟨j,x,h1,h2⟩
    cases j with
    | zero=>exact .inl h1
    | succ j=>exact .inr ⟨j,x,h1,h2⟩
  | false=>
   simp only [cond_false,ih,rest]
   constructor
   ·rintro ⟨j,x,h⟩; exact ⟨j+1,x,h⟩
   ·rintro ⟨j,x,h1,h2,h3,h4⟩
    cases j with
    | zero=>
     simp at h2 h1
     subst h1 h2
     rw [h3,h4] at hc
     cases hc
    | succ j=>exact ⟨j,x,h1,h2,h3,h4⟩
theorem nj {L k:Nat} {x:me}:∀ {l:List me} {i:Nat},og cU L k x i l=true→∀ j y,l[j]?=some y→L.testBit (i+j)=false→oe x y=true→k∈cU (i+j)
 | [],_,_,j,y,hj=>by simp at hj
 | z :: l,i,h,j,y,hj=>by
  unfold og at h
  rw [Bool.and_eq_true] at h
  cases j with
  | zero=>
   simp at hj
   subst hj
   intro h1 h2
   have h3:=h.1
   rw [Nat.add_zero] at h1
   rw [h1,h2] at h3
   exact dU.1 (by simpa using h3)
  | succ j=>
   have:=nj h.2 j y (by simpa using hj)
   rw [show i+1+j=i+(j+1) by omega] at this
   exact this
theorem sQ {L:Nat} {listed:Array Bool} (hM:Bc ops L listed) {C C':List Nat} (h:tM (jH ops) cU L C C'=true):∀ k∈C,k∈C'∨∀ i ok oi,ops[k]?=some ok→ops[i]?=some oi→listed.getD i true=false→iB ok oi=true→k∈cU i:=fun k hk=>by
 have h1:=List.all_eq_true.1 h k hk
 rw [Bool.or_eq_true] at h1
 rcases h1 with h1 | h1
 ·exact .inl (dU.1 h1)
 ·refine .inr fun i ok oi q1 q2 q3 q4=>?_
  rw [fR q1] at h1
  have hi:i < ops.size:=(Array.getElem?_eq_some_iff.1 q2).1
  have:=nj h1 i _ (jI q2) (by rw [Nat.zero_add,← hM.Bd hi]; exact q3) q4
  rw [Nat.zero_add] at this
  exact this
theorem yj {C:List Nat} (h:EJ (jH ops) C=true):NC ops C:=fun k hk ok dR=>by
 have:=List.all_eq_true.1 h k hk
 rw [fR dR] at this
 exact this
theorem vk {L j:Nat} {x:me} {W:List Nat}:∀ {l:List me} {i:Nat},EI cU L W j x i l=true→∀ k y,l[k]?=some y→(Nat.beq (i+k) j || L.testBit (i+k) || iW j (cU (i+k)) || (rP x y&&y.lo.all fun e=>iW e W))=true
 | [],_,_,k,y,hk=>by simp at hk
 | z :: l,i,h,k,y,hk=>by
  unfold EI at h
  rw [Bool.and_eq_true] at h
  cases k with
  | zero=>simp at hk; subst hk; exact h.1
  | succ k=>
   have:=vk h.2 k y (by simpa using hk)
   rw [show i+1+k=i+(k+1) by omega] at this
   exact this
theorem vl {d:Nat} {s:a6}:∀ {l:List Nat},EG d s l=true→∀ e∈l,∀ off,lk s e≠.lp d off
 | [],_,e,he,_=>by cases he
 | a :: l,h,e,he,off=>by
  unfold EG at h
  rw [Bool.and_eq_true] at h
  rcases List.mem_cons.1 he with rfl | he
  ·intro hv
   have h1:=h.1
   rw [hv] at h1
   simp only [qc] at h1
   cases h1
  ·exact vl h.2 e he off
theorem np {cf:List (List Nat)} (hA:yf ops cU) (hP:Q9 ops.size (jH ops)=true) (hF:Ba (jH ops) 0 (jH ops) cf=true) (hK:Inv K):∀ (T:DT) (n:Nat) (C:List Nat) (listed:Array Bool) (L:Nat),NC ops C→mc cU listed→Bc ops L listed →
  (kf (jH ops) (2 ^ ops.size - 1) cU cf T n C L none=true→∀ s,q8 E f ops.toList T K s→eM E f ops cU C K n listed s) ∧
  (∀ m l,n=m+1→kf (jH ops) (2 ^ ops.size - 1) cU cf T n C L (some l)=true→∀ s,q8 E f ops.toList T K s→∀ i∈l,i∈Region.ready .any ops listed→∀ oi,ops[i]?=some oi →
   b6 E f ops.toList oi (fun s'=>Ga E f ops cU C i s'∧eM E f ops cU C K m (listed.setIfInBounds i true) s') s)
 | .done,n,C,listed,L,hC,iA,hM=>by
  refine ⟨fun h s hs=>?_,fun m l _ h=>by simp [kf] at h⟩
  have hL:L=2 ^ ops.size - 1:=Nat.eq_of_beq_eq_true (by simpa only [kf] using h)
  have hr:Region.ready .any ops listed=[]:=by
   apply List.eq_nil_iff_forall_not_mem.2
   intro j hj
   obtain ⟨h1,o,ho,_⟩:=mem_ready.1 hj
   have bP:j < ops.size:=(Array.getElem?_eq_some_iff.1 ho).1
   rw [hM.Bd bP,hL,Nat.testBit_two_pow_sub_one] at h1
   simp [bP] at h1
  cases n with
  | zero=>exact ⟨hr,hs⟩
  | succ n=>exact ⟨fun _=>hs,fun i hi=>by rw [hr] at hi; simp at hi⟩
 | .stop,n,C,listed,L,hC,iA,hM=>by
  refine ⟨fun h=>by cases n <;> simp [kf] at h,fun m l e h s _ i hi=>?_⟩
  subst e
  have:l=[]:=by simpa [kf] using h
  rw [this] at hi
  simp at hi
 | .al j W T,0,C,listed,L,hC,iA,hM=>⟨fun h=>by simp [kf] at h,fun m l e=>by cases e⟩
 | .al j W T,n+1,C,listed,L,hC,iA,hM=>by
  refine ⟨fun h s hs=>?_,fun m l _ h=>by simp [kf] at h⟩
  unfold kf at h
  split at h
  ·rename_i x hx
   obtain ⟨oj,hj,rfl⟩:=qE hx
   split at h
   ·cases h
   ·rename_i d hd
    simp only [mg,Bool.and_eq_true] at h
    obtain ⟨⟨⟨⟨⟨Y0,tz⟩,hbit⟩,Vy⟩,uA⟩,hT⟩:=h
    have Y0:C=[]:=by simpa using Y0
    subst Y0
    have tz:bN oj.op=true:=tz
    have hd:oj.dst=some d:=hd
    have vm:j∈Region.ready .any ops listed:=pE hM hj (by simpa using hbit) Vy (oh hP hj)
    obtain ⟨ih,_⟩:=np hA hP hF hK T n [] (listed.setIfInBounds j true) (L ||| 2 ^ j) (fun k hk=>by cases hk) (iA.add hA vm) (hM.add j)
    unfold q8 at hs
    rw [aX,Array.getElem?_toList,hj] at hs
    simp only at hs
    obtain ⟨dR,hs⟩:=hs
    unfold Q7 at dR
    split at dR
    ·rename_i _ d' hg Ei
     rw [hd] at Ei
     cases Ei
     rw [Bool.and_eq_true] at dR
     have Q6:E.wW f d=false:=by simpa using dR.1
     have Qz:b6 E f ops.toList oj (eM E f ops cU [] K n (listed.setIfInBounds j true)) s:=b7 hs fun s' h'=>ih hT s' h'
     unfold b6 at Qz
     rw [hg] at Qz
     obtain ⟨s1,q1,q2⟩:=(EE tz).1 Qz
     refine Ib hA hK hj hg hd tz Q6 n listed s s1 iA (fun i oi hi cw H9 rH=>?_) vm q1 q2
     have eZ:=vk uA i _ (jI hi)
     rw [Nat.zero_add] at eZ
     simp only [Bool.or_eq_true] at eZ
     have Ra:i < ops.size:=(Array.getElem?_eq_some_iff.1 hi).1
     rcases eZ with ((h1 | h1) | h1) | h1
     ·exact absurd (Nat.eq_of_beq_eq_true h1) cw
     ·rw [hM.Bd Ra,h1] at H9; cases H9
     ·exact absurd (dU.1 h1) rH
     ·rw [Bool.and_eq_true] at h1
      exact ⟨yi h1.1,fun e he off=>vl dR.2 e (dU.1 (List.all_eq_true.1 h1.2 e he)) off⟩
    ·cases dR
  ·cases h
 | .take j C' T,0,C,listed,L,hC,iA,hM=>⟨fun h=>by simp [kf] at h,fun m l e=>by cases e⟩
 | .take j C' T,n+1,C,listed,L,hC,iA,hM=>by
  refine ⟨fun h s hs=>?_,fun m l _ h=>by simp [kf] at h⟩
  unfold kf at h
  split at h
  ·rename_i x c hx hc
   obtain ⟨oj,hj,rfl⟩:=qE hx
   split at h
   ·cases h
   ·rename_i d hd
    simp only [mg,Bool.and_eq_true] at h
    obtain ⟨⟨⟨⟨⟨⟨⟨hN,A6⟩,YW⟩,hcf⟩,hbit⟩,Vy⟩,mD⟩,Rb,hT⟩:=h
    have hN:q7 oj.op=true:=hN
    have hd:oj.dst=some d:=hd
    have vm:j∈Region.ready .any ops listed:=pE hM hj (by simpa using hbit) Vy (oh hP hj)
    have Ua:∀ {d:Nat} {l:List Nat},(!iW d l)=true→d∉l:=fun h hm=>by rw [dU.2 hm] at h; cases h
    have Rc:d∉oj.looksAt ops:=Ua A6
    have Y1:∀ k∈C,∀ ok,ops[k]?=some ok→d∉ok.looksAt ops∧ok.dst≠some d:=fun k hk ok dR=>by
     have:=List.all_eq_true.1 YW k hk
     rw [fR dR] at this
     simp only [Bool.and_eq_true] at this
     refine ⟨Ua this.1,fun e=>?_⟩
     have h2:=this.2
     simp only [jG,e,qc] at h2
     cases h2
    have La:NC ops (j :: C):=fun k hk ok ho=>by
     rcases List.mem_cons.1 hk with rfl | hk
     ·rw [hj] at ho; cases ho; exact hN
     ·exact hC k hk ok ho
    have Y2:=iA.add hA vm
    obtain ⟨ih,_⟩:=np hA hP hF hK T n C' (listed.setIfInBounds j true) (L ||| 2 ^ j) (yj mD) Y2 (hM.add j)
    unfold q8 at hs
    rw [aX,Array.getElem?_toList,hj] at hs
    simp only at hs
    have Qz:b6 E f ops.toList oj (eM E f ops cU (j :: C) K n (listed.setIfInBounds j true)) s:=b7 hs fun s' h'=>mb n _ _ (sQ (hM.add j) Rb) (ih hT s' h')
    obtain ⟨x,qf,hk⟩:=vb hN (gy La hK _ _) Qz
    rw [hd] at hk
    refine Dh hA hC hK hj hN hd Rc Y1 n listed s x iA (fun i oi hi cw H9 rH=>?_) vm qf hk
    have uA:=vj hF j _ c (jI hj) (by rw [← aX]; exact hc) hN
    have eZ:=vi uA i _ (jI hi)
    rw [Nat.zero_add,Nat.zero_add] at eZ
    simp only [Bool.or_eq_true] at eZ
    have Ra:i < ops.size:=(Array.getElem?_eq_some_iff.1 hi).1
    rcases eZ with ((h1 | h1) | h1) | h1
    ·exact absurd (Nat.eq_of_beq_eq_true h1) cw
    ·obtain ⟨e,q1,q2,q3⟩:=hU.1 (dU.1 h1)
     exact absurd q3 (rH e (by simpa using q1) q2)
    ·have:=List.all_eq_true.1 hcf i (dU.1 h1)
     rw [hM.Bd Ra,this] at H9
     cases H9
    ·exact yi h1
  ·cases h
 | .br i re C' T more,0,C,listed,L,hC,iA,hM=>⟨fun h=>by simp [kf] at h,fun m l e=>by cases e⟩
 | .br i re C' T more,n+1,C,listed,L,hC,iA,hM=>by
  have main:∀ left l,(match left with | none=>mf L 0 (jH ops) | some l=>l)=l→kf (jH ops) (2 ^ ops.size - 1) cU cf (.br i re C' T more) (n+1) C L left=true→∀ s,q8 E f ops.toList (.br i re C' T more) K s→i∈l∧∀ k∈l,k∈Region.ready .any ops listed→∀ ok,ops[k]?=some ok →
    b6 E f ops.toList ok (fun s'=>Ga E f ops cU C k s'∧eM E f ops cU C K n (listed.setIfInBounds k true) s') s:=by
   intro left l hl h s hs
   unfold kf at h
   split at h
   ·cases h
   ·rename_i y hy
    obtain ⟨oi,qD,rfl⟩:=qE hy
    have h:(PI (jH ops) cU C re i (jG ops oi)&&EJ (jH ops) C'&&iW i l&&(tM (jH ops) cU (L ||| 2 ^ i) C C'&&kf (jH ops) (2 ^ ops.size - 1) cU cf T n C' (L ||| 2 ^ i) none) &&
     kf (jH ops) (2 ^ ops.size - 1) cU cf more (n+1) C L (some (l.filter fun k=>!Nat.beq k i)))=true:=by
     cases left with
     | none=>simp only at hl; subst hl; simp only [vh,mg] at h; exact h
     | some l'=>simp only at hl; subst hl; simp only [mg] at h; exact h
    simp only [Bool.and_eq_true] at h
    obtain ⟨⟨⟨⟨U6,mD⟩,oF⟩,Rb,hT⟩,hmore⟩:=h
    unfold q8 at hs
    refine ⟨dU.1 oF,fun k hk XD ok dR=>?_⟩
    by_cases e:k=i
    ·subst e
     rw [qD] at dR
     cases dR
     obtain ⟨ih,_⟩:=np hA hP hF hK T n C' (listed.setIfInBounds k true) (L ||| 2 ^ k) (yj mD) (iA.add hA XD) (hM.add k)
     have h1:=hs.1
     rw [aX,Array.getElem?_toList,qD] at h1
     refine b7 h1 fun s' h'=>⟨fun c hc oc PH q1 q2 q3 q4=>?_,mb n _ _ (sQ (hM.add k) Rb) (ih hT s' h'.2)⟩
     rw [qD] at q2
     cases q2
     have uO:=List.all_eq_true.1 U6 c hc
     rw [fR q1] at uO
     have q3':oe (jG ops oc) (jG ops oi)=true:=q3
     simp only [q3',Bool.not_true,Bool.false_or,Bool.or_eq_true] at uO
     rcases uO with uO | uO
     ·have hm:c∈re:=dU.1 uO
      have:∀ (re:List Nat),c∈re→yh E f ops.toList re s'→Db E f ops.toList oc s':=by
       intro re
       induction re with
       | nil=>intro hm; simp at hm
       | cons a re ihr=>
        intro hm ha
        rcases List.mem_cons.1 hm with rfl | hm
        ·have:=ha.1
         rw [aX,Array.getElem?_toList,q1] at this
         exact this
        ·exact ihr hm ha.2
      exact this re hm h'.1
     ·exact absurd (dU.1 uO) q4
    ·obtain ⟨_,ih⟩:=np hA hP hF hK more (n+1) C listed L hC iA hM
     refine ih n _ rfl hmore s hs.2 k ?_ XD ok dR
     rw [List.mem_filter]
     exact ⟨hk,by rw [lN e]; rfl⟩
  refine ⟨fun h s hs=>?_,fun m l e h s hs k hk XD ok dR=>?_⟩
  ·obtain ⟨m1,m2⟩:=main none _ rfl h s hs
   have back:∀ k,k∈mf L 0 (jH ops)→k∈Region.ready .any ops listed:=fun k hk=>by
    obtain ⟨j,x,q1,q2,q3,q4⟩:=ni.1 hk
    rw [Nat.zero_add] at q1
    subst q1
    rw [← aX] at q2
    obtain ⟨o,ho,rfl⟩:=qE q2
    exact pE hM ho q3 q4 (oh hP ho)
   have Vz:∀ k,k∈Region.ready .any ops listed→k∈mf L 0 (jH ops):=fun k hk=>by
    obtain ⟨h1,o,ho,mD⟩:=mem_ready.1 hk
    have bP:k < ops.size:=(Array.getElem?_eq_some_iff.1 ho).1
    refine ni.2 ⟨k,jG ops o,by omega,jI ho,by rw [← hM.Bd bP]; exact h1,List.all_eq_true.2 fun e he=>?_⟩
    obtain ⟨ed,q1,q2,rfl⟩:=hU.1 he
    have h2:=mD ed (by simpa using q1) q2
    rw [hM.Bd (oh hP ho ed (by simpa using q1) q2)] at h2
    exact h2
   refine ⟨fun h0=>?_,fun k hk ok dR=>m2 k (Vz k hk) hk ok dR⟩
   have:=back i m1
   rw [h0] at this
   simp at this
  ·cases e
   exact (main (some l) l rfl h s hs).2 k hk XD ok dR
theorem vn {R:ak} {w:World} {β:Nat→Nat} {F:Fence} {Qc:Exit→Act→World→Prop} {C:List Nat} (hQ:∀ a' w',nb E R w β s K a' w'→Qc .normal a' w') :
  ∀ (n:Nat) (listed:Array Bool) (R1:ak) (w1:World) (β1:Nat→Nat) (s1:St) (a1:Act),ba E R1 w1 β1 s1 a1→Step R w β s.boxes R1 w1 β1 s1.boxes→s1.ro=s.ro→bM R1 s1.ro F →
   eM E f ops cU C K n listed s1→wpAnyIn F 0 E.P .any ops Qc n listed a1 w1
 | 0,listed,R1,w1,β1,s1,a1,hr,ke,bL,_,ha=>⟨ha.1,hQ _ _ ⟨s1,R1,β1,ha.2,hr,ke,bL⟩⟩
 | n+1,listed,R1,w1,β1,s1,a1,hr,ke,bL,hf,ha=>by
  refine ⟨fun h0=>hQ _ _ ⟨s1,R1,β1,ha.1 h0,hr,ke,bL⟩,fun i hi=>?_⟩
  obtain ⟨_,o,ho,_⟩:=mem_ready.1 hi
  unfold wpOpIn
  simp only [ho]
  refine qy hr hf (ha.2 i hi o ho) _ ?_
  rintro a' w' ⟨s',R',β',q1,q2,q3,q4⟩
  exact vn hQ n _ R' w' β' s' a' q2 (ke.trans q3) (q4.trans bL) (by rw [q4]; exact hf.mono q3.ext) q1.2
theorem eF {K':St→Prop} (hK:∀ s,K s→K' s):∀ (T:DT) (s:St),q8 E f ops.toList T K s→q8 E f ops.toList T K' s
 | .done,s,h=>hK s h
 | .stop,_,_=>trivial
 | .take j C T,s,h=>by
  unfold q8 at h ⊢
  split
  ·rename_i oj hj
   rw [hj] at h
   exact b7 h fun s' h'=>eF hK T s' h'
  ·rename_i hj
   rw [hj] at h
   exact h
 | .al j W T,s,h=>by
  unfold q8 at h ⊢
  split
  ·rename_i oj hj
   rw [hj] at h
   exact ⟨h.1,b7 h.2 fun s' h'=>eF hK T s' h'⟩
  ·rename_i hj
   rw [hj] at h
   exact h
 | .br i re C T more,s,h=>by
  unfold q8 at h ⊢
  refine ⟨?_,eF hK more s h.2⟩
  have h:=h.1
  split
  ·rename_i oj hj
   rw [hj] at h
   exact b7 h fun s' h'=>⟨h'.1,eF hK T s' h'.2⟩
  ·rename_i hj
   rw [hj] at h
   exact h
structure af where
 cU:List (List Nat)
 cf:List (List Nat)
 T:DT
def Dj (ops:Array Oper) (p:af):Bool:=EH (ops.toList.map (jG ops)) fun I=>
 zo ops.size fun n=>zo (2 ^ n - 1) fun N=>vg (Ic p.cU) 0 I&&Q9 n I&&Ba I 0 I p.cf&&kf I N (Ic p.cU) p.cf p.T n [] 0 none
theorem ba.drawn {R:ak} {w:World} {β:Nat→Nat} {a:Act} (h:ba E R w β s a):ba E R { w with drawn:=w.drawn+1 } β s a∧Step R w β s.boxes R { w with drawn:=w.drawn+1 } β s.boxes:=by
 have e:Ext R w R { w with drawn:=w.drawn+1 }:=⟨fun _ _ h=>h,fun _ _ _=>rfl,fun _ ro h=>⟨ro,h,ca.refl ro⟩,fG.refl w⟩
 refine ⟨⟨⟨h.g.len,fun id go ro h1 h2=>(h.g.obj id go ro h1 h2).mono e (fun _ _=>rfl) (fun _ _ _ h=>h),h.g.inj,h.g.wf,fun g cs hg=>(h.g.bY g cs hg).mono e,Nat.le_succ_of_le h.g.lo⟩,?_,h.t.mono e,h.n,h.d⟩,?_⟩
 ·exact h.b.bo e (fun _ _ _=>rfl) (fun _ _ _ _ h=>h) (fun _ _ _ h=>h)
 ·exact ⟨e,rfl,rfl,rfl,Nat.le_refl _,fun _ _ _=>rfl,fun _ _ h=>h,fun _ _ h _ _=>h⟩
theorem e7.draw {id:Nat} {p:af} {Q:Exit→St→Prop} (dR:Dj ops p=true) (h:q8 E f ops.toList p.T (Q .normal) s):e7 E (.region id ops true) Q s:=fun R w β a F hr hf=>by
 simp only [Dj,Bb,mg,Bool.and_eq_true] at dR
 obtain ⟨⟨⟨hA,hP⟩,hF⟩,hT⟩:=dR
 refine wpIn_region_any E.mixed ?_
 obtain ⟨q1,q2⟩:=hr.drawn
 have hK:Inv (fun s=>∃ u,n9 u s∧Q .normal u):=fun s t e ⟨u,h1,h2⟩=>⟨u,h1.trans e,h2⟩
 have h':=eF (K':=fun s=>∃ u,n9 u s∧Q .normal u) (fun s h=>⟨s,n9.refl s,h⟩) p.T s h
 have iA:mc (Ic p.cU) (Array.replicate ops.size false):=fun i hi=>by
  rw [Array.getD_eq_getD_getElem?,Array.getElem?_replicate] at hi
  split at hi <;> cases hi
 have Re:=(np (E:=E) (f:=f) (Di hA) hP hF hK p.T ops.size [] (Array.replicate ops.size false) 0 (fun k hk=>by simp at hk) iA ⟨by simp,fun i hi=>by simp [hi]⟩).1 hT s h'
 refine vn (R:=R) (w:=w) (β:=β) (s:=s) (f:=f) (K:=fun s=>∃ u,n9 u s∧Q .normal u) ?_ _ _ R _ β s a q1 q2 rfl hf Re
 rintro a' w' ⟨s',R',β',⟨u,e,hu⟩,h2,h3,h4⟩
 exact ⟨u,R',β',hu,h2.eqv e.symm,h3.eqv rfl e.symm.b,e.ro.trans h4⟩
end
end Go.Am
