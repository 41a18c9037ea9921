/- The abstract machine: regions whose order the tape draws,along a tree of choices that was checked. -/
import Derived.Test.YtldcljfjjoidhaaGreatDoorAmKG
set_option linter.all false
namespace Go.Am
open Go
section
variable {E:Env} {s t:St} {f:FuncId} {ops:Array Oper} {o oj oi:Oper} {d:Tmp} {x:SV} {K K':St→Prop} {de:Nat→List Nat} {C:List Nat}
def Ht (E:Env) (f:FuncId) (ops:Array Oper) (de:Nat→List Nat) (C:List Nat) (i:Nat) (s:St):Prop:=
 ∀ j∈C,∀ oj oi,ops[j]?=some oj→ops[i]?=some oi→jo oj oi=true→j∉de i→Ex E f ops.toList oj s
def NC (ops:Array Oper) (C:List Nat):Prop:=∀ j∈C,∀ oj,ops[j]?=some oj→sC oj.op=true
theorem oZ {i:Nat} (hC:NC ops C):Inv (Ht E f ops de C i):=fun _ _ e h j hj oj oi h1 h2 h3 h4=>Nh (hC j hj oj h1) e (h j hj oj oi h1 h2 h3 h4)
def fG (E:Env) (f:FuncId) (ops:Array Oper) (de:Nat→List Nat) (C:List Nat) (K:St→Prop):Nat→Array Bool→St→Prop
 | 0,listed,s=>Region.ready .any ops listed=[]∧K s
 | n+1,listed,s=>(Region.ready .any ops listed=[]→K s) ∧
   ∀ i∈Region.ready .any ops listed,∀ oi,ops[i]?=some oi→b8 E f ops.toList oi (fun s'=>Ht E f ops de C i s'∧fG E f ops de C K n (listed.setIfInBounds i true) s') s
theorem ig (hC:NC ops C) (hK:Inv K):∀ n listed,Inv (fG E f ops de C K n listed)
 | 0,_=>fun s t e h=>⟨h.1,hK s t e h.2⟩
 | n+1,_=>fun s t e h=>⟨fun h0=>hK s t e (h.1 h0),fun i hi oi rO=>Cq (fun s t e h=>⟨oZ hC s t e h.1,ig hC hK n _ s t e h.2⟩) s t e (h.2 i hi oi rO)⟩
theorem na {C':List Nat}:∀ n (listed:Array Bool) (s:St),
  (∀ k∈C',k∈C∨∀ i ok oi,ops[k]?=some ok→ops[i]?=some oi→listed.getD i true=false→jo ok oi=true→k∈de i) →
  fG E f ops de C K n listed s→fG E f ops de C' K n listed s
 | 0,_,_,_,h=>h
 | n+1,listed,s,hk,h=>⟨h.1,fun i hi oi rO=>b9 (h.2 i hi oi rO) fun s' h'=>⟨fun k SG ok Q1 h1 h2 h3 h4=>by
   rcases hk k SG with h5 | h5
   ·exact h'.1 k h5 ok Q1 h1 h2 h3 h4
   ·exact absurd (h5 i ok Q1 h1 h2 (mem_ready.1 hi).1 h3) h4,na n _ s' (fun k SG=>by
   rcases hk k SG with h5 | h5
   ·exact .inl h5
   ·refine .inr fun i' ok Q1 h1 h2 h3 h4=>h5 i' ok Q1 h1 h2 ?_ h4
    by_cases e:i=i'
    ·subst e; exact (mem_ready.1 hi).1
    ·rw [getD_set_ne true e] at h3; exact h3) h'.2⟩⟩
def zG (ops:Array Oper) (de:Nat→List Nat):Prop:=∀ i oi a,ops[i]?=some oi→a∈de i→∃ e∈oi.after,Region.binds .any e=true∧(e.on=a∨a∈de e.on)
def nb (de:Nat→List Nat) (listed:Array Bool):Prop:=∀ i,listed.getD i false=true→∀ a∈de i,listed.getD a false=true
theorem nb.ready {listed:Array Bool} (h:nb de listed) (ha:zG ops de) {i:Nat} (hi:i∈Region.ready .any ops listed):∀ a∈de i,listed.getD a false=true:=fun a YJ=>by
 obtain ⟨_,o,ho,nH⟩:=mem_ready.1 hi
 obtain ⟨e,he,hb,h2⟩:=ha i o a ho YJ
 rcases h2 with rfl | h2
 ·exact nH e he hb
 ·exact h _ (nH e he hb) a h2
theorem jI {listed:Array Bool} {i:Nat} (h:listed.getD i false=true):listed.getD i true=true:=by
 rw [Array.getD_eq_getD_getElem?] at *
 cases hl:listed[i]? with
 | none=>rw [hl] at h; cases h
 | some b=>rw [hl] at h; exact h
theorem nb.add {listed:Array Bool} (h:nb de listed) (ha:zG ops de) {i:Nat} (hi:i∈Region.ready .any ops listed):nb de (listed.setIfInBounds i true):=fun k hk a YJ=>by
 by_cases e:i=k
 ·subst e
  exact getD_set_true (h.ready ha hi a YJ)
 ·rw [getD_set_ne false e] at hk
  exact getD_set_true (h k hk a YJ)
theorem ED (hA:zG ops de) (hC:NC ops C) (hK:Inv K) {j:Nat} (hj:ops[j]?=some oj) (hN:sC oj.op=true) (FT:oj.dst=some d) (Cs:d∉oj.looksAt ops)
  (Z0:∀ k∈C,∀ ok,ops[k]?=some ok→d∉ok.looksAt ops∧ok.dst≠some d):∀ n (listed:Array Bool) (s:St) (x:SV),nb de listed →
   (∀ i oi,ops[i]?=some oi→i≠j→listed.getD i true=false→(∀ e∈oi.after,Region.binds .any e=true→e.on≠j)→oj.apart ops oi=true) →
   j∈Region.ready .any ops listed→wy E f ops oj s x→fG E f ops de (j :: C) K n (listed.setIfInBounds j true) (s.put (some d) x)→fG E f ops de C K (n+1) listed s:=by
 have MN:NC ops (j :: C):=fun k hk ok ho=>by
  rcases List.mem_cons.1 hk with rfl | hk
  ·rw [hj] at ho; cases ho; exact hN
  ·exact hC k hk ok ho
 have self:∀ n (listed:Array Bool) (s:St) (x:SV),wy E f ops oj s x→fG E f ops de (j :: C) K n (listed.setIfInBounds j true) (s.put (some d) x)→∀ oi,ops[j]?=some oi →
   b8 E f ops.toList oi (fun s'=>Ht E f ops de C j s'∧fG E f ops de C K n (listed.setIfInBounds j true) s') s:=fun n listed s x hx h oi rO=>by
  rw [hj] at rO
  cases rO
  refine wA hN (fun s t e h=>⟨oZ hC s t e h.1,ig hC hK _ _ s t e h.2⟩) hx ?_
  rw [FT]
  refine ⟨fun k _ ok Q1 _ h2 h3 _=>?_,na n _ _ (fun k hk=>.inl (List.mem_cons_of_mem _ hk)) h⟩
  rw [hj] at h2
  cases h2
  simp [jo,Co hN,hN] at h3
 intro n
 induction n with
 | zero=>
  intro listed s x _ _ hr hx h
  refine ⟨fun h0=>by rw [h0] at hr; simp at hr,fun i hi oi rO=>?_⟩
  by_cases e:i=j
  ·subst e; exact self 0 listed s x hx h oi rO
  ·have:=ready_mono hi e
   rw [h.1] at this
   simp at this
 | succ n ih=>
  intro listed s x iz jm hr hx h
  refine ⟨fun h0=>by rw [h0] at hr; simp at hr,fun i hi oi rO=>?_⟩
  by_cases e:i=j
  ·subst e; exact self (n+1) listed s x hx h oi rO
  ·have Ju:=(mem_ready.1 hi).1
   have Nl:=(mem_ready.1 hr).1
   have Sb:∀ ed∈oi.after,Region.binds .any ed=true→ed.on≠j:=fun ed he hb ke=>by
    obtain ⟨_,o,ho,nH⟩:=mem_ready.1 hi
    rw [rO] at ho
    cases ho
    have h1:=jI (nH ed he hb)
    rw [ke,Nl] at h1
    cases h1
   have Vt:=jm i oi rO e Ju Sb
   have hG:=h.2 i (ready_mono hi e) oi rO
   have Jv:j∉de i:=fun hm=>by
    have h1:=jI (iz.ready hA hi j hm)
    rw [Nl] at h1
    cases h1
   have YK:Inv (fun s'=>Ht E f ops de (j :: C) i s'∧fG E f ops de (j :: C) K n ((listed.setIfInBounds j true).setIfInBounds i true) s'):=
    fun s t e h=>⟨oZ MN s t e h.1,ig MN hK _ _ s t e h.2⟩
   have SH:∀ k ok,ops[k]?=some ok→k≠j→(listed.setIfInBounds i true).getD k true=false→(∀ e∈ok.after,Region.binds .any e=true→e.on≠j)→oj.apart ops ok=true:=fun k ok hk Z1 WG sV=>by
    refine jm k ok hk Z1 ?_ sV
    by_cases e':i=k
    ·subst e'; exact Ju
    ·rw [getD_set_ne true e'] at WG; exact WG
   have core:∀ {pre:bc} {preB:cE} {G:List GO},Vr (bM oi.op) oi.dst pre→(sC oi.op=true→preB=[]∧G=s.G) →
     (Ht E f ops de (j :: C) i ((s.put (some d) x).ft pre preB G)∧fG E f ops de (j :: C) K n ((listed.setIfInBounds j true).setIfInBounds i true) ((s.put (some d) x).ft pre preB G)) →
     Ht E f ops de C i (s.ft pre preB G)∧fG E f ops de C K (n+1) (listed.setIfInBounds i true) (s.ft pre preB G):=by
    intro pre preB G yO WE hk
    obtain ⟨x',pE,iK⟩:=Ho hN FT Cs Vt YK hx yO WE hk (fun t' EE hd=>EE.1 j (List.mem_cons_self ..) oj oi hj rO hd Jv)
    refine ⟨fun k SG ok Q1 h1 h2 h3 h4=>?_,?_⟩
    ·obtain ⟨q1,q2⟩:=Z0 k SG ok h1
     obtain ⟨b1,b2,b3,_⟩:=fV (s.ft pre preB G) (some d) x'
     exact Ng (hC k SG ok h1) q1 q2 (fun e he=>va _ _ _ he) (by rw [b1]) b2 b3 (iK.1 k (List.mem_cons_of_mem _ SG) ok Q1 h1 h2 h3 h4)
    ·refine ih (listed.setIfInBounds i true) _ x' (iz.add hA hi) SH (ready_mono hr (Ne.symm e)) pE ?_
     rw [Array.setIfInBounds_comm _ _ e]
     exact iK.2
   rw [fU (fun s t e h=>⟨oZ hC s t e h.1,ig hC hK _ _ s t e h.2⟩)]
   obtain ⟨I2,_,_⟩:=Oper.apart_spec Vt
   have tN:∀ e∈oi.looksAt ops,lk (s.put (some d) x).af e=lk s.af e:=fun e he=>va s d x fun k=>I2 d FT (k ▸ he)
   obtain ⟨b1,b2,b3,b4,b5⟩:=fV s (some d) x
   rcases (fU YK).1 hG with ⟨h1,h2⟩ | ⟨h1,h2⟩
   ·refine .inl ⟨by rw [← kh tN]; exact h1,s6 b3 b2 (by rw [b1]) (kC tN) h2 fun pre preB G hp WE hk=>core hp (fun hh=>?_) hk⟩
    obtain ⟨q1,q2⟩:=WE hh
    exact ⟨q1,by rw [q2,b2]⟩
   ·refine .inr ⟨by rw [← kh tN]; exact h1,?_⟩
    obtain ⟨pre,preB,G,p1,p2,p3,p4⟩:=bG.put (s:=s.put (some d) x) (t:=s) (al:=bM oi.op) (w:=false) b3 b2 oi.dst (.v fM)
    obtain ⟨q1,q2,_⟩:=p2 rfl
    rw [p3] at h2
    rw [p4]
    exact core p1 (fun _=>⟨q1,by rw [q2,b2]⟩) h2
theorem FW {i:Nat} {s:St}:Ht E f ops de [] i s:=fun j hj=>by cases hj
theorem SI {y:Operand} {k off:Nat} (h:bw E s.af y=.lp k off):∃ e,y=.tmp e∧lk s.af e=.lp k off:=by
 cases y with
 | tmp e=>exact ⟨e,rfl,h⟩
 | const v=>simp only [bw] at h; split at h <;> cases h
 | global g=>simp only [bw] at h; split at h <;> cases h
 | func g=>cases h
theorem Jw (hA:zG ops de) (hK:Inv K) {j:Nat} (hj:ops[j]?=some oj) (hg:oj.guard=none) (FT:oj.dst=some d) (uK:bM oj.op=true) (SJ:E.yB f d=false):∀ n (listed:Array Bool) (s s1:St),nb de listed →
  (∀ i oi,ops[i]?=some oi→i≠j→listed.getD i true=false→j∉de i→oj.apart ops oi=true∧∀ e∈oi.looksAt ops,∀ off,lk s.af e≠.lp d off) →
  j∈Region.ready .any ops listed→ao E f s oj=some (true,s1)→fG E f ops de [] K n (listed.setIfInBounds j true) s1→fG E f ops de [] K (n+1) listed s:=by
 have MN:NC ops []:=fun k hk=>by cases hk
 have self:∀ n (listed:Array Bool) (s s1:St),ao E f s oj=some (true,s1)→fG E f ops de [] K n (listed.setIfInBounds j true) s1→∀ oi,ops[j]?=some oi →
   b8 E f ops.toList oi (fun s'=>Ht E f ops de [] j s'∧fG E f ops de [] K n (listed.setIfInBounds j true) s') s:=fun n listed s s1 hx h oi rO=>by
  rw [hj] at rO
  cases rO
  unfold b8
  rw [hg]
  exact (FV uK).2 ⟨s1,hx,FW,h⟩
 intro n
 induction n with
 | zero=>
  intro listed s s1 _ _ hr hx h
  refine ⟨fun h0=>by rw [h0] at hr; simp at hr,fun i hi oi rO=>?_⟩
  by_cases e:i=j
  ·subst e; exact self 0 listed s s1 hx h oi rO
  ·have:=ready_mono hi e
   rw [h.1] at this
   simp at this
 | succ n ih=>
  intro listed s s1 iz jm hr hx h
  refine ⟨fun h0=>by rw [h0] at hr; simp at hr,fun i hi oi rO=>?_⟩
  by_cases e:i=j
  ·subst e; exact self (n+1) listed s s1 hx h oi rO
  ·have Ju:=(mem_ready.1 hi).1
   have Nl:=(mem_ready.1 hr).1
   have Jv:j∉de i:=fun hm=>by
    have h1:=jI (iz.ready hA hi j hm)
    rw [Nl] at h1
    cases h1
   obtain ⟨Vt,sV⟩:=jm i oi rO e Ju Jv
   obtain ⟨I2,cm,B3⟩:=Oper.apart_spec Vt
   have Js:oi.dst≠some d:=cm d FT
   obtain ⟨_,cs,rfl,FJ⟩:=EB uK FT SJ hx
   have hG:=h.2 i (ready_mono hi e) oi rO
   have YK:Inv (fun s'=>Ht E f ops de [] i s'∧fG E f ops de [] K n ((listed.setIfInBounds j true).setIfInBounds i true) s'):=
    fun s t e h=>⟨oZ MN s t e h.1,ig MN hK _ _ s t e h.2⟩
   have Hs:∀ y∈oi.op.operands,∀ off,bw E s.af y≠.lp d off:=fun y hy off hv=>by
    obtain ⟨e',rfl,hv⟩:=SI hv
    exact sV e' (mZ hy) off hv
   have core:∀ {pre:bc} {preB:cE} {G:List GO},iF E s oi (s.ft pre preB G) →
     (Ht E f ops de [] i ((qo s d cs).ft pre preB G)∧fG E f ops de [] K n ((listed.setIfInBounds j true).setIfInBounds i true) ((qo s d cs).ft pre preB G)) →
     Ht E f ops de [] i (s.ft pre preB G)∧fG E f ops de [] K (n+1) (listed.setIfInBounds i true) (s.ft pre preB G):=by
    intro pre preB G Nk hk
    refine ⟨FW,?_⟩
    obtain ⟨o1,o2⟩:=FU Nk
    have tN:∀ e' off,oi.dst≠some e'∨lk (s.ft pre preB G).af e'=.lp d off→lk (s.ft pre preB G).af e'=.lp d off→lk s.af e'=.lp d off:=by
     intro e' off _ hv
     have hv:lk (pre++s.af) e'=.lp d off:=hv
     rcases o1 with rfl | ⟨d',x,Fx,hp,WH⟩
     ·exact hv
     ·have pE:∀ off,x≠.lp d off:=fun off c=>by
       rcases WH d off c with ⟨y,hy,fN,ho⟩ | ⟨_,h⟩
       ·exact Hs y hy fN ho
       ·exact Js (by rw [Fx,h])
      by_cases c2:d'=e'
      ·subst c2
       rcases hp with rfl | rfl
       ·simp only [List.cons_append,List.nil_append,aA] at hv; exact absurd hv (pE off)
       ·simp only [List.cons_append,List.nil_append,aA] at hv; exact absurd hv (pE off)
      ·rcases hp with rfl | rfl
       ·simp only [List.cons_append,List.nil_append] at hv; rwa [aR c2] at hv
       ·simp only [List.cons_append,List.nil_append] at hv
        rw [aR c2,jq] at hv
        cases hl:lk s.af e' with
        | lp k fN=>
         rw [hl] at hv
         simp only at hv
         cases hb:Nat.beq k d' with
         | true=>rw [hb] at hv; cases hv
         | false=>rw [hb] at hv; exact hv
        | v a=>rw [hl] at hv; cases hv
        | none=>rw [hl] at hv; cases hv
    refine ih (listed.setIfInBounds i true) _ _ (iz.add hA hi) ?_ (ready_mono hr (Ne.symm e)) (FJ (s.ft pre preB G) rfl ?_) ?_
    ·intro k ok iK Z1 WG Z2
     have Z3:listed.getD k true=false:=by
      by_cases e':i=k
      ·subst e'; exact Ju
      ·rw [getD_set_ne true e'] at WG; exact WG
     obtain ⟨q1,q2⟩:=jm k ok iK Z1 Z3 Z2
     exact ⟨q1,fun e' YL off hv=>q2 e' YL off (tN e' off (.inr hv) hv)⟩
    ·intro y hy v hv
     cases y with
     | tmp e'=>
      have Fx:oi.dst≠some e':=fun c=>B3 e' c (mZ hy)
      have hv:lk s.af e'=.v v:=hv
      show lk (pre++s.af) e'=.v v
      rcases o1 with rfl | ⟨d',x,Wx,hp,_⟩
      ·exact hv
      ·have c2:d'≠e':=fun c=>Fx (by rw [Wx,c])
       rcases hp with rfl | rfl
       ·simp only [List.cons_append,List.nil_append]; rw [aR c2]; exact hv
       ·simp only [List.cons_append,List.nil_append]
        rw [aR c2,wC (fun off=>by rw [hv]; intro c; cases c)]; exact hv
     | const _=>exact hv
     | global _=>exact hv
     | func _=>exact hv
    ·rw [Array.setIfInBounds_comm _ _ e]
     exact ig MN hK _ _ _ _ (Hr cs Nk Js Hs) hk.2
   have AO:∀ e'∈oi.looksAt ops,lk (qo s d cs).af e'=lk s.af e':=fun e' YL=>by
    have c1:d≠e':=fun c=>I2 d FT (c ▸ YL)
    show lk (.put d (.lp d 0) :: .kill d :: s.af) e'=_
    rw [aR c1,wC (sV e' YL)]
   have D5:∀ k off,(∃ y∈oi.op.operands,bw E (qo s d cs).af y=.lp k off)→dm (qo s d cs).boxes k=dm s.boxes k:=by
    rintro k off ⟨y,hy,hv⟩
    rw [kC AO y hy] at hv
    have ME:d≠k:=fun c=>Hs y hy off (by rw [c]; exact hv)
    show dm ((d,cs) :: s.boxes) k=dm s.boxes k
    simp only [dm]
    cases hb:Nat.beq d k with
    | true=>exact absurd (Nat.eq_of_beq_eq_true hb) ME
    | false=>rfl
   rw [fU (fun s t e h=>⟨oZ MN s t e h.1,ig MN hK _ _ s t e h.2⟩)]
   rcases (fU YK).1 hG with ⟨h1,h2⟩ | ⟨h1,h2⟩
   ·exact .inl ⟨by rw [← kh AO]; exact h1,EC (s:=qo s d cs) (t:=s) rfl rfl D5 (kC AO) h2 fun pre preB G hO hk=>core hO hk⟩
   ·refine .inr ⟨by rw [← kh AO]; exact h1,?_⟩
    obtain ⟨pre,preB,G,p1,p2,p3,p4⟩:=bG.put (s:=qo s d cs) (t:=s) (al:=bM oi.op) (w:=false) rfl rfl oi.dst (.v fM)
    rw [p3] at h2
    have hO:iF E s oi (s.put oi.dst (.v fM)):=kD rfl rfl _
    rw [p4] at hO ⊢
    exact core hO h2
end
inductive DT where
 | done
 | take (j:Nat) (C:List Nat) (t:DT)
 | br (i:Nat) (re C:List Nat) (t:DT) (more:DT)
 | stop
 | al (j:Nat) (W:List Nat) (t:DT)
structure nf where
 dst:Option Tmp
 lo:List Tmp
 pr:List Nat
 n:Bool
 r:Bool
 a:Bool
def FX (d:Nat) (s:bc):List Nat→Bool
 | []=>true
 | e :: l=>(match lk s e with
  | .lp k _=>!Nat.beq k d
  | _=>true)&&FX d s l
def SK (E:Env) (f:FuncId) (o:Oper) (W:List Nat) (s:St):Bool:=match o.guard,o.dst with
 | none,some d=>!E.yB f d&&FX d s.af W
 | _,_=>false
def jJ (x:Nat):List Nat→Bool
 | []=>false
 | y :: l=>Nat.beq x y || jJ x l
def pc:List Edge→List Nat
 | []=>[]
 | e :: l=>bif Region.binds .any e then e.on :: pc l else pc l
def kE (ops:Array Oper) (o:Oper):nf:=⟨o.dst,o.looksAt ops,pc o.after.toList,sC o.op,SE o.op,bM o.op⟩
def AP {α:Type} (n:Nat) (K:Nat→α):α:=match n with
 | 0=>K 0
 | m+1=>K (Nat.succ m)
def zH {α:Type}:List Nat→(List Nat→α)→α
 | [],K=>K []
 | a :: l,K=>AP a fun a=>zH l fun l=>K (a :: l)
def SL {α:Type} (i:nf) (K:nf→α):α:=match i with
 | ⟨d,lo,pr,n,r,a⟩=>zH lo fun lo=>zH pr fun pr=>(match d with
  | none=>(fun (K:Option Tmp→α)=>K none)
  | some d=>(fun (K:Option Tmp→α)=>AP d fun d=>K (some d))) fun d=>(bif n then (fun (K:Bool→α)=>K true) else fun K=>K false) fun n=>
   (bif r then (fun (K:Bool→α)=>K true) else fun K=>K false) fun r=>(bif a then (fun (K:Bool→α)=>K true) else fun K=>K false) fun a=>K ⟨d,lo,pr,n,r,a⟩
def FY {α:Type}:List nf→(List nf→α)→α
 | [],K=>K []
 | i :: l,K=>SL i fun i=>FY l fun l=>K (i :: l)
def s8 (x y:nf):Bool:=
 (match x.dst with
 | some d=>!jJ d y.lo&&(match y.dst with | some e=>!Nat.beq e d | none=>true)
 | none=>true) &&
 (match y.dst with
 | some d=>!jJ d x.lo
 | none=>true)
def Cu (j:Nat) (x:nf) (cf:List Nat):Nat→List nf→Bool
 | _,[]=>true
 | i,y :: l=>(Nat.beq i j || jJ j y.pr || jJ i cf || s8 x y)&&Cu j x cf (i+1) l
def Cv (I:List nf):Nat→List nf→List (List Nat)→Bool
 | _,[],_=>true
 | j,x :: l,c :: cs=>(!x.n || Cu j x c 0 I)&&Cv I (j+1) l cs
 | _,_,_=>false
def wD (de:Nat→List Nat):Nat→List nf→Bool
 | _,[]=>true
 | i,x :: l=>(de i).all (fun a=>x.pr.any fun e=>Nat.beq e a || jJ a (de e))&&wD de (i+1) l
def ng (L:Nat):Nat→List nf→List Nat
 | _,[]=>[]
 | i,x :: l=>bif !L.testBit i&&x.pr.all (fun e=>L.testBit e) then i :: ng L (i+1) l else ng L (i+1) l
def pd (x y:nf):Bool:=y.a || (x.r&&!y.n)
def pf (de:Nat→List Nat) (L k:Nat) (x:nf):Nat→List nf→Bool
 | _,[]=>true
 | i,y :: l=>(L.testBit i || !pd x y || jJ k (de i))&&pf de L k x (i+1) l
def vc (I:List nf) (de:Nat→List Nat) (L:Nat) (C C':List Nat):Bool:=C.all fun k=>jJ k C' || match nth I k with
 | none=>false
 | some x=>pf de L k x 0 I
def Q2 (I:List nf) (de:Nat→List Nat) (C re:List Nat) (i:Nat) (y:nf):Bool:=C.all fun k=>jJ k re || match nth I k with
 | none=>false
 | some x=>!pd x y || jJ k (de i)
def FZ (de:Nat→List Nat) (L:Nat) (W:List Nat) (j:Nat) (x:nf):Nat→List nf→Bool
 | _,[]=>true
 | i,y :: l=>(Nat.beq i j || L.testBit i || jJ j (de i) || (s8 x y&&y.lo.all fun e=>jJ e W))&&FZ de L W j x (i+1) l
def F0 (I:List nf) (C:List Nat):Bool:=C.all fun k=>match nth I k with
 | some x=>x.n
 | none=>false
def lg (I:List nf) (N:Nat) (de:Nat→List Nat) (cf:List (List Nat)):DT→Nat→List Nat→Nat→Option (List Nat)→Bool
 | .done,_,_,L,none=>Nat.beq L N
 | .take j C' t,n+1,C,L,none=>match nth I j,nth cf j with
  | some x,some c=>match x.dst with
   | none=>false
   | some d=>x.n&&!jJ d x.lo&&(C.all fun k=>match nth I k with
     | none=>false
     | some y=>!jJ d y.lo&&(match y.dst with | some e=>!Nat.beq e d | none=>true)) &&
    c.all (fun i=>L.testBit i)&&!L.testBit j&&x.pr.all (fun e=>L.testBit e)&&F0 I C' &&
    AP (L ||| 2 ^ j) fun L'=>vc I de L' (j :: C) C'&&lg I N de cf t n C' L' none
  | _,_=>false
 | .br i re C' t more,n+1,C,L,left=>match nth I i with
  | none=>false
  | some y=>(match left with
   | none=>fun (K:List Nat→Bool)=>zH (ng L 0 I) K
   | some l=>fun K=>K l) fun l=>
    Q2 I de C re i y&&F0 I C'&&jJ i l&&(AP (L ||| 2 ^ i) fun L'=>vc I de L' C C'&&lg I N de cf t n C' L' none) &&
     lg I N de cf more (n+1) C L (some (l.filter fun k=>!Nat.beq k i))
 | .stop,_,_,_,some l=>l.isEmpty
 | .al j W t,n+1,C,L,none=>match nth I j with
  | some x=>match x.dst with
   | none=>false
   | some _=>C.isEmpty&&x.a&&!L.testBit j&&x.pr.all (fun e=>L.testBit e)&&FZ de L W j x 0 I&&AP (L ||| 2 ^ j) fun L'=>lg I N de cf t n [] L' none
  | none=>false
 | _,_,_,_,_=>false
def zI (E:Env) (f:FuncId) (ops:List Oper):List Nat→St→Prop
 | [],_=>True
 | k :: l,s=>(match nth ops k with
  | some ok=>Ex E f ops ok s
  | none=>True)∧zI E f ops l s
def sD (E:Env) (f:FuncId) (ops:List Oper):DT→(St→Prop)→St→Prop
 | .done,K,s=>K s
 | .take j _ t,K,s=>match nth ops j with
  | some oj=>b8 E f ops oj (sD E f ops t K) s
  | none=>False
 | .br i re _ t more,K,s=>(match nth ops i with
  | some oi=>b8 E f ops oi (fun s'=>zI E f ops re s'∧sD E f ops t K s') s
  | none=>False)∧sD E f ops more K s
 | .stop,_,_=>True
 | .al j W t,K,s=>match nth ops j with
  | some oj=>SK E f oj W s=true∧b8 E f ops oj (sD E f ops t K) s
  | none=>False
def Jx (l:List (List Nat)) (i:Nat):List Nat:=match nth l i with
 | some a=>a
 | none=>[]
section
variable {E:Env} {s t:St} {f:FuncId} {ops:Array Oper} {K:St→Prop} {de:Nat→List Nat}
theorem eY {x:Nat}:∀ {l:List Nat},jJ x l=true↔x∈l
 | []=>by simp [jJ]
 | y :: l=>by simp [jJ,eY (l:=l)]
theorem nh {α:Type} (n:Nat) (K:Nat→α):AP n K=K n:=by cases n <;> rfl
theorem wE {α:Type}:∀ (l:List Nat) (K:List Nat→α),zH l K=K l
 | [],_=>rfl
 | a :: l,K=>by simp only [zH,nh]; rw [wE]
theorem Nn {α:Type} (i:nf) (K:nf→α):SL i K=K i:=by
 obtain ⟨d,lo,pr,n,r,a⟩:=i
 cases d <;> cases n <;> cases r <;> cases a <;> simp [SL,wE,nh]
theorem Cw {α:Type}:∀ (l:List nf) (K:List nf→α),FY l K=K l
 | [],_=>rfl
 | a :: l,K=>by simp only [FY,Nn]; rw [Cw]
def kF (ops:Array Oper):List nf:=ops.toList.map (kE ops)
theorem rP {k:Nat} {x:nf} (h:nth (kF ops) k=some x):∃ o,ops[k]?=some o∧x=kE ops o:=by
 rw [a8,kF,List.getElem?_map,Array.getElem?_toList] at h
 cases ho:ops[k]? with
 | none=>rw [ho] at h; cases h
 | some o=>rw [ho] at h; exact ⟨o,rfl,by simpa using h.symm⟩
theorem iX {e:Nat}:∀ {l:List Edge},e∈pc l↔∃ ed∈l,Region.binds .any ed=true∧ed.on=e
 | []=>by simp [pc]
 | x :: l=>by
  unfold pc
  cases hb:Region.binds .any x with
  | true=>
   simp only [cond_true,List.mem_cons,iX (l:=l),exists_eq_or_imp,hb,true_and]
   constructor
   ·rintro (h | h)
    ·exact .inl h.symm
    ·exact .inr h
   ·rintro (h | h)
    ·exact .inl h.symm
    ·exact .inr h
  | false=>simp only [cond_false,List.mem_cons,iX (l:=l),exists_eq_or_imp,hb,false_and,false_or,Bool.false_eq_true]
theorem zJ {x y:Oper} (h:s8 (kE ops x) (kE ops y)=true):x.apart ops y=true:=by
 have hm:∀ (d:Nat) (l:List Nat),jJ d l=false→l.contains d=false:=fun d l h=>by
  cases hc:l.contains d with
  | false=>rfl
  | true=>rw [eY.2 (by simpa using hc)] at h; cases h
 unfold s8 at h
 unfold Oper.apart
 simp only [kE,Bool.and_eq_true] at h ⊢
 refine ⟨?_,?_⟩
 ·cases hx:x.dst with
  | none=>rfl
  | some d=>
   rw [hx] at h
   simp only [Bool.and_eq_true,Bool.not_eq_true'] at h ⊢
   refine ⟨hm _ _ h.1.1,?_⟩
   have h2:=h.1.2
   cases hy:y.dst with
   | none=>rfl
   | some e=>
    rw [hy] at h2
    simp only [Bool.not_eq_true'] at h2
    have:e≠d:=fun k=>by rw [k,qY] at h2; cases h2
    simpa using this
 ·cases hy:y.dst with
  | none=>rfl
  | some d=>
   rw [hy] at h
   simp only [Bool.not_eq_true'] at h ⊢
   exact hm _ _ h.2
def Cx (ops:Array Oper) (L:Nat) (listed:Array Bool):Prop:=listed.size=ops.size∧∀ i,i < ops.size→listed[i]?=some (L.testBit i)
theorem Cx.add {L:Nat} {listed:Array Bool} (h:Cx ops L listed) (j:Nat):Cx ops (L ||| 2 ^ j) (listed.setIfInBounds j true):=by
 refine ⟨by simp [h.1],fun i hi=>?_⟩
 rw [Nat.testBit_or,Nat.testBit_two_pow]
 by_cases e:j=i
 ·subst e
  rw [Array.getElem?_setIfInBounds_self_of_lt (by rw [h.1]; exact hi)]
  simp
 ·rw [Array.getElem?_setIfInBounds_ne e,h.2 i hi]
  simp [e]
theorem Cx.Cy {L:Nat} {listed:Array Bool} (h:Cx ops L listed) {i:Nat} (hi:i < ops.size) (b:Bool):listed.getD i b=L.testBit i:=by
 rw [Array.getD_eq_getD_getElem?,h.2 i hi]; rfl
theorem qq {L:Nat} {listed:Array Bool} (h:Cx ops L listed) {j:Nat} {o:Oper} (ho:ops[j]?=some o) (h1:L.testBit j=false) (h2:((kE ops o).pr.all fun e=>L.testBit e)=true)
  (cg:∀ e∈o.after,Region.binds .any e=true→e.on < ops.size):j∈Region.ready .any ops listed:=by
 have hj:j < ops.size:=(Array.getElem?_eq_some_iff.1 ho).1
 refine mem_ready.2 ⟨by rw [h.Cy hj]; exact h1,o,ho,fun e he hb=>?_⟩
 rw [h.Cy (cg e he hb)]
 exact List.all_eq_true.1 h2 e.on (iX.2 ⟨e,by simpa using he,hb,rfl⟩)
def SM (n:Nat) (I:List nf):Bool:=I.all fun x=>x.pr.all fun e=>Nat.blt e n
theorem gK {k:Nat} {o:Oper} (h:ops[k]?=some o):nth (kF ops) k=some (kE ops o):=by
 rw [a8,kF,List.getElem?_map,Array.getElem?_toList,h]; rfl
theorem kG {k:Nat} {o:Oper} (h:ops[k]?=some o):(kF ops)[k]?=some (kE ops o):=by
 rw [← a8]; exact gK h
theorem pg (h:SM ops.size (kF ops)=true) {k:Nat} {o:Oper} (ho:ops[k]?=some o):∀ e∈o.after,Region.binds .any e=true→e.on < ops.size:=fun e he hb=>by
 have h1:=List.all_eq_true.1 h (kE ops o) (List.mem_of_getElem? (kG ho))
 have h2:=List.all_eq_true.1 h1 e.on (iX.2 ⟨e,by simpa using he,hb,rfl⟩)
 exact Nat.le_of_ble_eq_true h2
theorem wF {j:Nat} {x:nf} {c:List Nat}:∀ {l:List nf} {i:Nat},Cu j x c i l=true→∀ k y,l[k]?=some y→(Nat.beq (i+k) j || jJ j y.pr || jJ (i+k) c || s8 x y)=true
 | [],_,_,k,y,hk=>by simp at hk
 | z :: l,i,h,k,y,hk=>by
  unfold Cu at h
  rw [Bool.and_eq_true] at h
  cases k with
  | zero=>simp at hk; subst hk; exact h.1
  | succ k=>
   have:=wF h.2 k y (by simpa using hk)
   rw [show i+1+k=i+(k+1) by omega] at this
   exact this
theorem wG {I:List nf}:∀ {l:List nf} {j:Nat} {cs:List (List Nat)},Cv I j l cs=true→∀ k x c,l[k]?=some x→cs[k]?=some c→x.n=true→Cu (j+k) x c 0 I=true
 | [],_,_,_,k,x,c,hk,_,_=>by simp at hk
 | z :: l,j,[],_,k,x,c,_,hc,_=>by simp at hc
 | z :: l,j,d :: cs,h,k,x,c,hk,hc,hn=>by
  unfold Cv at h
  rw [Bool.and_eq_true] at h
  cases k with
  | zero=>
   simp at hk hc
   subst hk hc
   have:=h.1
   rw [hn] at this
   simpa using this
  | succ k=>
   have:=wG h.2 k x c (by simpa using hk) (by simpa using hc) hn
   rw [show j+1+k=j+(k+1) by omega] at this
   exact this
theorem ua:∀ {l:List nf} {i:Nat},wD de i l=true→∀ k x,l[k]?=some x→∀ a∈de (i+k),∃ e∈x.pr,e=a∨a∈de e
 | [],_,_,k,x,hk=>by simp at hk
 | z :: l,i,h,k,x,hk=>by
  unfold wD at h
  rw [Bool.and_eq_true] at h
  cases k with
  | zero=>
   simp at hk
   subst hk
   intro a ha
   have h1:=List.all_eq_true.1 h.1 a ha
   obtain ⟨e,he,h2⟩:=List.any_eq_true.1 h1
   rw [Bool.or_eq_true] at h2
   refine ⟨e,he,?_⟩
   rcases h2 with h2 | h2
   ·exact .inl (Nat.eq_of_beq_eq_true h2)
   ·exact .inr (eY.1 h2)
  | succ k=>
   have:=ua h.2 k x (by simpa using hk)
   rw [show i+1+k=i+(k+1) by omega] at this
   exact this
theorem EF (h:wD de 0 (kF ops)=true):zG ops de:=fun i oi a hi ha=>by
 have h1:=ua h i _ (kG hi) a (by rw [Nat.zero_add]; exact ha)
 obtain ⟨e,he,h2⟩:=h1
 obtain ⟨ed,q1,q2,rfl⟩:=iX.1 he
 exact ⟨ed,by simpa using q1,q2,h2⟩
theorem oo {L:Nat}:∀ {l:List nf} {i k:Nat},k∈ng L i l↔∃ j x,k=i+j∧l[j]?=some x∧L.testBit k=false∧(x.pr.all fun e=>L.testBit e)=true
 | [],i,k=>by simp [ng]
 | z :: l,i,k=>by
  have ih:=oo (L:=L) (l:=l) (i:=i+1) (k:=k)
  have rest:(∃ j x,k=i+1+j∧l[j]?=some x∧L.testBit k=false∧(x.pr.all fun e=>L.testBit e)=true)↔∃ j x,k=i+(j+1)∧(z :: l)[j+1]?=some x∧L.testBit k=false∧(x.pr.all fun e=>L.testBit e)=true:=by
   constructor
   ·rintro ⟨j,x,h1,h2⟩; exact ⟨j,x,by omega,by simpa using h2⟩
   ·rintro ⟨j,x,h1,h2⟩; exact ⟨j,x,by omega,by simpa using h2⟩
  unfold ng
  cases hc:(!L.testBit i&&z.pr.all fun e=>L.testBit e) with
  | true=>
   simp only [cond_true,List.mem_cons,ih,rest]
   rw [Bool.and_eq_true,Bool.not_eq_true'] at hc
   constructor
   ·rintro (rfl | ⟨j,x,h⟩)
    ·exact ⟨0,z,rfl,rfl,hc⟩
    ·exact ⟨j+1,x,h⟩
   ·rintro ⟨j,x,h1,h2⟩
    cases j with
    | zero=>exact .inl h1
    | succ j=>exact .inr ⟨j,x,h1,h2⟩
  | false=>
   simp only [cond_false,ih,rest]
   constructor
   ·rintro ⟨j,x,h⟩; exact ⟨j+1,x,h⟩
   ·rintro ⟨j,x,h1,h2,h3,h4⟩
    cases j with
    | zero=>
     simp at h2 h1
     subst h1 h2
     rw [h3,h4] at hc
     cases hc
    | succ j=>exact ⟨j,x,h1,h2,h3,h4⟩
theorem oq {L k:Nat} {x:nf}:∀ {l:List nf} {i:Nat},pf de L k x i l=true→∀ j y,l[j]?=some y→L.testBit (i+j)=false→pd x y=true→k∈de (i+j)
 | [],_,_,j,y,hj=>by simp at hj
 | z :: l,i,h,j,y,hj=>by
  unfold pf at h
  rw [Bool.and_eq_true] at h
  cases j with
  | zero=>
   simp at hj
   subst hj
   intro h1 h2
   have h3:=h.1
   rw [Nat.add_zero] at h1
   rw [h1,h2] at h3
   exact eY.1 (by simpa using h3)
  | succ j=>
   have:=oq h.2 j y (by simpa using hj)
   rw [show i+1+j=i+(j+1) by omega] at this
   exact this
theorem ub {L:Nat} {listed:Array Bool} (hM:Cx ops L listed) {C C':List Nat} (h:vc (kF ops) de L C C'=true):∀ k∈C,k∈C'∨∀ i ok oi,ops[k]?=some ok→ops[i]?=some oi→listed.getD i true=false→jo ok oi=true→k∈de i:=fun k hk=>by
 have h1:=List.all_eq_true.1 h k hk
 rw [Bool.or_eq_true] at h1
 rcases h1 with h1 | h1
 ·exact .inl (eY.1 h1)
 ·refine .inr fun i ok oi q1 q2 q3 q4=>?_
  rw [gK q1] at h1
  have hi:i < ops.size:=(Array.getElem?_eq_some_iff.1 q2).1
  have:=oq h1 i _ (kG q2) (by rw [Nat.zero_add,← hM.Cy hi]; exact q3) q4
  rw [Nat.zero_add] at this
  exact this
theorem zK {C:List Nat} (h:F0 (kF ops) C=true):NC ops C:=fun k hk ok dE=>by
 have:=List.all_eq_true.1 h k hk
 rw [gK dE] at this
 exact this
theorem wH {L j:Nat} {x:nf} {W:List Nat}:∀ {l:List nf} {i:Nat},FZ de L W j x i l=true→∀ k y,l[k]?=some y→(Nat.beq (i+k) j || L.testBit (i+k) || jJ j (de (i+k)) || (s8 x y&&y.lo.all fun e=>jJ e W))=true
 | [],_,_,k,y,hk=>by simp at hk
 | z :: l,i,h,k,y,hk=>by
  unfold FZ at h
  rw [Bool.and_eq_true] at h
  cases k with
  | zero=>simp at hk; subst hk; exact h.1
  | succ k=>
   have:=wH h.2 k y (by simpa using hk)
   rw [show i+1+k=i+(k+1) by omega] at this
   exact this
theorem wI {d:Nat} {s:bc}:∀ {l:List Nat},FX d s l=true→∀ e∈l,∀ off,lk s e≠.lp d off
 | [],_,e,he,_=>by cases he
 | a :: l,h,e,he,off=>by
  unfold FX at h
  rw [Bool.and_eq_true] at h
  rcases List.mem_cons.1 he with rfl | he
  ·intro hv
   have h1:=h.1
   rw [hv] at h1
   simp only [qY] at h1
   cases h1
  ·exact wI h.2 e he off
theorem ot {cf:List (List Nat)} (hA:zG ops de) (hP:SM ops.size (kF ops)=true) (hF:Cv (kF ops) 0 (kF ops) cf=true) (hK:Inv K):∀ (T:DT) (n:Nat) (C:List Nat) (listed:Array Bool) (L:Nat),NC ops C→nb de listed→Cx ops L listed →
  (lg (kF ops) (2 ^ ops.size - 1) de cf T n C L none=true→∀ s,sD E f ops.toList T K s→fG E f ops de C K n listed s) ∧
  (∀ m l,n=m+1→lg (kF ops) (2 ^ ops.size - 1) de cf T n C L (some l)=true→∀ s,sD E f ops.toList T K s→∀ i∈l,i∈Region.ready .any ops listed→∀ oi,ops[i]?=some oi →
   b8 E f ops.toList oi (fun s'=>Ht E f ops de C i s'∧fG E f ops de C K m (listed.setIfInBounds i true) s') s)
 | .done,n,C,listed,L,hC,iz,hM=>by
  refine ⟨fun h s hs=>?_,fun m l _ h=>by simp [lg] at h⟩
  have hL:L=2 ^ ops.size - 1:=Nat.eq_of_beq_eq_true (by simpa only [lg] using h)
  have hr:Region.ready .any ops listed=[]:=by
   apply List.eq_nil_iff_forall_not_mem.2
   intro j hj
   obtain ⟨h1,o,ho,_⟩:=mem_ready.1 hj
   have cg:j < ops.size:=(Array.getElem?_eq_some_iff.1 ho).1
   rw [hM.Cy cg,hL,Nat.testBit_two_pow_sub_one] at h1
   simp [cg] at h1
  cases n with
  | zero=>exact ⟨hr,hs⟩
  | succ n=>exact ⟨fun _=>hs,fun i hi=>by rw [hr] at hi; simp at hi⟩
 | .stop,n,C,listed,L,hC,iz,hM=>by
  refine ⟨fun h=>by cases n <;> simp [lg] at h,fun m l e h s _ i hi=>?_⟩
  subst e
  have:l=[]:=by simpa [lg] using h
  rw [this] at hi
  simp at hi
 | .al j W T,0,C,listed,L,hC,iz,hM=>⟨fun h=>by simp [lg] at h,fun m l e=>by cases e⟩
 | .al j W T,n+1,C,listed,L,hC,iz,hM=>by
  refine ⟨fun h s hs=>?_,fun m l _ h=>by simp [lg] at h⟩
  unfold lg at h
  split at h
  ·rename_i x hx
   obtain ⟨oj,hj,rfl⟩:=rP hx
   split at h
   ·cases h
   ·rename_i d hd
    simp only [nh,Bool.and_eq_true] at h
    obtain ⟨⟨⟨⟨⟨Z4,uK⟩,hbit⟩,WI⟩,vM⟩,hT⟩:=h
    have Z4:C=[]:=by simpa using Z4
    subst Z4
    have uK:bM oj.op=true:=uK
    have hd:oj.dst=some d:=hd
    have wJ:j∈Region.ready .any ops listed:=qq hM hj (by simpa using hbit) WI (pg hP hj)
    obtain ⟨ih,_⟩:=ot hA hP hF hK T n [] (listed.setIfInBounds j true) (L ||| 2 ^ j) (fun k hk=>by cases hk) (iz.add hA wJ) (hM.add j)
    unfold sD at hs
    rw [a8,Array.getElem?_toList,hj] at hs
    simp only at hs
    obtain ⟨dE,hs⟩:=hs
    unfold SK at dE
    split at dE
    ·rename_i _ d' hg Fx
     rw [hd] at Fx
     cases Fx
     rw [Bool.and_eq_true] at dE
     have SJ:E.yB f d=false:=by simpa using dE.1
     have R6:b8 E f ops.toList oj (fG E f ops de [] K n (listed.setIfInBounds j true)) s:=b9 hs fun s' h'=>ih hT s' h'
     unfold b8 at R6
     rw [hg] at R6
     obtain ⟨s1,q1,q2⟩:=(FV uK).1 R6
     refine Jw hA hK hj hg hd uK SJ n listed s s1 iz (fun i oi hi cm Ju sV=>?_) wJ q1 q2
     have fR:=wH vM i _ (kG hi)
     rw [Nat.zero_add] at fR
     simp only [Bool.or_eq_true] at fR
     have SN:i < ops.size:=(Array.getElem?_eq_some_iff.1 hi).1
     rcases fR with ((h1 | h1) | h1) | h1
     ·exact absurd (Nat.eq_of_beq_eq_true h1) cm
     ·rw [hM.Cy SN,h1] at Ju; cases Ju
     ·exact absurd (eY.1 h1) sV
     ·rw [Bool.and_eq_true] at h1
      exact ⟨zJ h1.1,fun e he off=>wI dE.2 e (eY.1 (List.all_eq_true.1 h1.2 e he)) off⟩
    ·cases dE
  ·cases h
 | .take j C' T,0,C,listed,L,hC,iz,hM=>⟨fun h=>by simp [lg] at h,fun m l e=>by cases e⟩
 | .take j C' T,n+1,C,listed,L,hC,iz,hM=>by
  refine ⟨fun h s hs=>?_,fun m l _ h=>by simp [lg] at h⟩
  unfold lg at h
  split at h
  ·rename_i x c hx hc
   obtain ⟨oj,hj,rfl⟩:=rP hx
   split at h
   ·cases h
   ·rename_i d hd
    simp only [nh,Bool.and_eq_true] at h
    obtain ⟨⟨⟨⟨⟨⟨⟨hN,Cs⟩,Z0⟩,hcf⟩,hbit⟩,WI⟩,nH⟩,SO,hT⟩:=h
    have hN:sC oj.op=true:=hN
    have hd:oj.dst=some d:=hd
    have wJ:j∈Region.ready .any ops listed:=qq hM hj (by simpa using hbit) WI (pg hP hj)
    have Vm:∀ {d:Nat} {l:List Nat},(!jJ d l)=true→d∉l:=fun h hm=>by rw [eY.2 hm] at h; cases h
    have SP:d∉oj.looksAt ops:=Vm Cs
    have Z5:∀ k∈C,∀ ok,ops[k]?=some ok→d∉ok.looksAt ops∧ok.dst≠some d:=fun k hk ok dE=>by
     have:=List.all_eq_true.1 Z0 k hk
     rw [gK dE] at this
     simp only [Bool.and_eq_true] at this
     refine ⟨Vm this.1,fun e=>?_⟩
     have h2:=this.2
     simp only [kE,e,qY] at h2
     cases h2
    have MN:NC ops (j :: C):=fun k hk ok ho=>by
     rcases List.mem_cons.1 hk with rfl | hk
     ·rw [hj] at ho; cases ho; exact hN
     ·exact hC k hk ok ho
    have Z6:=iz.add hA wJ
    obtain ⟨ih,_⟩:=ot hA hP hF hK T n C' (listed.setIfInBounds j true) (L ||| 2 ^ j) (zK nH) Z6 (hM.add j)
    unfold sD at hs
    rw [a8,Array.getElem?_toList,hj] at hs
    simp only at hs
    have R6:b8 E f ops.toList oj (fG E f ops de (j :: C) K n (listed.setIfInBounds j true)) s:=b9 hs fun s' h'=>na n _ _ (ub (hM.add j) SO) (ih hT s' h')
    obtain ⟨x,pE,hk⟩:=wz hN (ig MN hK _ _) R6
    rw [hd] at hk
    refine ED hA hC hK hj hN hd SP Z5 n listed s x iz (fun i oi hi cm Ju sV=>?_) wJ pE hk
    have vM:=wG hF j _ c (kG hj) (by rw [← a8]; exact hc) hN
    have fR:=wF vM i _ (kG hi)
    rw [Nat.zero_add,Nat.zero_add] at fR
    simp only [Bool.or_eq_true] at fR
    have SN:i < ops.size:=(Array.getElem?_eq_some_iff.1 hi).1
    rcases fR with ((h1 | h1) | h1) | h1
    ·exact absurd (Nat.eq_of_beq_eq_true h1) cm
    ·obtain ⟨e,q1,q2,q3⟩:=iX.1 (eY.1 h1)
     exact absurd q3 (sV e (by simpa using q1) q2)
    ·have:=List.all_eq_true.1 hcf i (eY.1 h1)
     rw [hM.Cy SN,this] at Ju
     cases Ju
    ·exact zJ h1
  ·cases h
 | .br i re C' T more,0,C,listed,L,hC,iz,hM=>⟨fun h=>by simp [lg] at h,fun m l e=>by cases e⟩
 | .br i re C' T more,n+1,C,listed,L,hC,iz,hM=>by
  have main:∀ left l,(match left with | none=>ng L 0 (kF ops) | some l=>l)=l→lg (kF ops) (2 ^ ops.size - 1) de cf (.br i re C' T more) (n+1) C L left=true→∀ s,sD E f ops.toList (.br i re C' T more) K s→i∈l∧∀ k∈l,k∈Region.ready .any ops listed→∀ ok,ops[k]?=some ok →
    b8 E f ops.toList ok (fun s'=>Ht E f ops de C k s'∧fG E f ops de C K n (listed.setIfInBounds k true) s') s:=by
   intro left l hl h s hs
   unfold lg at h
   split at h
   ·cases h
   ·rename_i y hy
    obtain ⟨oi,rO,rfl⟩:=rP hy
    have h:(Q2 (kF ops) de C re i (kE ops oi)&&F0 (kF ops) C'&&jJ i l&&(vc (kF ops) de (L ||| 2 ^ i) C C'&&lg (kF ops) (2 ^ ops.size - 1) de cf T n C' (L ||| 2 ^ i) none) &&
     lg (kF ops) (2 ^ ops.size - 1) de cf more (n+1) C L (some (l.filter fun k=>!Nat.beq k i)))=true:=by
     cases left with
     | none=>simp only at hl; subst hl; simp only [wE,nh] at h; exact h
     | some l'=>simp only at hl; subst hl; simp only [nh] at h; exact h
    simp only [Bool.and_eq_true] at h
    obtain ⟨⟨⟨⟨Wf,nH⟩,pF⟩,SO,hT⟩,hmore⟩:=h
    unfold sD at hs
    refine ⟨eY.1 pF,fun k hk YM ok dE=>?_⟩
    by_cases e:k=i
    ·subst e
     rw [rO] at dE
     cases dE
     obtain ⟨ih,_⟩:=ot hA hP hF hK T n C' (listed.setIfInBounds k true) (L ||| 2 ^ k) (zK nH) (iz.add hA YM) (hM.add k)
     have h1:=hs.1
     rw [a8,Array.getElem?_toList,rO] at h1
     refine b9 h1 fun s' h'=>⟨fun c hc oc Q1 q1 q2 q3 q4=>?_,na n _ _ (ub (hM.add k) SO) (ih hT s' h'.2)⟩
     rw [rO] at q2
     cases q2
     have zx:=List.all_eq_true.1 Wf c hc
     rw [gK q1] at zx
     have q3':pd (kE ops oc) (kE ops oi)=true:=q3
     simp only [q3',Bool.not_true,Bool.false_or,Bool.or_eq_true] at zx
     rcases zx with zx | zx
     ·have hm:c∈re:=eY.1 zx
      have:∀ (re:List Nat),c∈re→zI E f ops.toList re s'→Ex E f ops.toList oc s':=by
       intro re
       induction re with
       | nil=>intro hm; simp at hm
       | cons a re ihr=>
        intro hm ha
        rcases List.mem_cons.1 hm with rfl | hm
        ·have:=ha.1
         rw [a8,Array.getElem?_toList,q1] at this
         exact this
        ·exact ihr hm ha.2
      exact this re hm h'.1
     ·exact absurd (eY.1 zx) q4
    ·obtain ⟨_,ih⟩:=ot hA hP hF hK more (n+1) C listed L hC iz hM
     refine ih n _ rfl hmore s hs.2 k ?_ YM ok dE
     rw [List.mem_filter]
     exact ⟨hk,by rw [mM e]; rfl⟩
  refine ⟨fun h s hs=>?_,fun m l e h s hs k hk YM ok dE=>?_⟩
  ·obtain ⟨m1,m2⟩:=main none _ rfl h s hs
   have back:∀ k,k∈ng L 0 (kF ops)→k∈Region.ready .any ops listed:=fun k hk=>by
    obtain ⟨j,x,q1,q2,q3,q4⟩:=oo.1 hk
    rw [Nat.zero_add] at q1
    subst q1
    rw [← a8] at q2
    obtain ⟨o,ho,rfl⟩:=rP q2
    exact qq hM ho q3 q4 (pg hP ho)
   have WJ:∀ k,k∈Region.ready .any ops listed→k∈ng L 0 (kF ops):=fun k hk=>by
    obtain ⟨h1,o,ho,nH⟩:=mem_ready.1 hk
    have cg:k < ops.size:=(Array.getElem?_eq_some_iff.1 ho).1
    refine oo.2 ⟨k,kE ops o,by omega,kG ho,by rw [← hM.Cy cg]; exact h1,List.all_eq_true.2 fun e he=>?_⟩
    obtain ⟨ed,q1,q2,rfl⟩:=iX.1 he
    have h2:=nH ed (by simpa using q1) q2
    rw [hM.Cy (pg hP ho ed (by simpa using q1) q2)] at h2
    exact h2
   refine ⟨fun h0=>?_,fun k hk ok dE=>m2 k (WJ k hk) hk ok dE⟩
   have:=back i m1
   rw [h0] at this
   simp at this
  ·cases e
   exact (main (some l) l rfl h s hs).2 k hk YM ok dE
theorem wK {R:ai} {w:World} {β:Nat→Nat} {F:Fence} {Qc:Exit→Act→World→Prop} {C:List Nat} (hQ:∀ a' w',oe E R w β s K a' w'→Qc .normal a' w') :
  ∀ (n:Nat) (listed:Array Bool) (R1:ai) (w1:World) (β1:Nat→Nat) (s1:St) (a1:Act),bi E R1 w1 β1 s1 a1→Step R w β s.boxes R1 w1 β1 s1.boxes→s1.ro=s.ro→bL R1 s1.ro F →
   fG E f ops de C K n listed s1→wpAnyIn F 0 E.P .any ops Qc n listed a1 w1
 | 0,listed,R1,w1,β1,s1,a1,hr,lf,bH,_,ha=>⟨ha.1,hQ _ _ ⟨s1,R1,β1,ha.2,hr,lf,bH⟩⟩
 | n+1,listed,R1,w1,β1,s1,a1,hr,lf,bH,hf,ha=>by
  refine ⟨fun h0=>hQ _ _ ⟨s1,R1,β1,ha.1 h0,hr,lf,bH⟩,fun i hi=>?_⟩
  obtain ⟨_,o,ho,_⟩:=mem_ready.1 hi
  unfold wpOpIn
  simp only [ho]
  refine rI hr hf (ha.2 i hi o ho) _ ?_
  rintro a' w' ⟨s',R',β',q1,q2,q3,q4⟩
  exact wK hQ n _ R' w' β' s' a' q2 (lf.trans q3) (q4.trans bH) (by rw [q4]; exact hf.mono q3.ext) q1.2
theorem fA {K':St→Prop} (hK:∀ s,K s→K' s):∀ (T:DT) (s:St),sD E f ops.toList T K s→sD E f ops.toList T K' s
 | .done,s,h=>hK s h
 | .stop,_,_=>trivial
 | .take j C T,s,h=>by
  unfold sD at h ⊢
  split
  ·rename_i oj hj
   rw [hj] at h
   exact b9 h fun s' h'=>fA hK T s' h'
  ·rename_i hj
   rw [hj] at h
   exact h
 | .al j W T,s,h=>by
  unfold sD at h ⊢
  split
  ·rename_i oj hj
   rw [hj] at h
   exact ⟨h.1,b9 h.2 fun s' h'=>fA hK T s' h'⟩
  ·rename_i hj
   rw [hj] at h
   exact h
 | .br i re C T more,s,h=>by
  unfold sD at h ⊢
  refine ⟨?_,fA hK more s h.2⟩
  have h:=h.1
  split
  ·rename_i oj hj
   rw [hj] at h
   exact b9 h fun s' h'=>⟨h'.1,fA hK T s' h'.2⟩
  ·rename_i hj
   rw [hj] at h
   exact h
structure ah where
 de:List (List Nat)
 cf:List (List Nat)
 T:DT
def EG (ops:Array Oper) (p:ah):Bool:=FY (ops.toList.map (kE ops)) fun I=>
 AP ops.size fun n=>AP (2 ^ n - 1) fun N=>wD (Jx p.de) 0 I&&SM n I&&Cv I 0 I p.cf&&lg I N (Jx p.de) p.cf p.T n [] 0 none
theorem bi.drawn {R:ai} {w:World} {β:Nat→Nat} {a:Act} (h:bi E R w β s a):bi E R { w with drawn:=w.drawn+1 } β s a∧Step R w β s.boxes R { w with drawn:=w.drawn+1 } β s.boxes:=by
 have e:Ext R w R { w with drawn:=w.drawn+1 }:=⟨fun _ _ h=>h,fun _ _ _=>rfl,fun _ ro h=>⟨ro,h,cw.refl ro⟩,gC.refl w⟩
 refine ⟨⟨⟨h.g.len,fun id go ro h1 h2=>(h.g.obj id go ro h1 h2).mono e (fun _ _=>rfl) (fun _ _ _ h=>h),h.g.inj,h.g.wf,fun g cs hg=>(h.g.b6 g cs hg).mono e,Nat.le_succ_of_le h.g.lo⟩,?_,h.t.mono e,h.n,h.d⟩,?_⟩
 ·exact h.b.cq e (fun _ _ _=>rfl) (fun _ _ _ _ h=>h) (fun _ _ _ h=>h)
 ·exact ⟨e,rfl,rfl,rfl,Nat.le_refl _,fun _ _ _=>rfl,fun _ _ h=>h,fun _ _ h _ _=>h⟩
theorem fS.draw {id:Nat} {p:ah} {Q:Exit→St→Prop} (dE:EG ops p=true) (h:sD E f ops.toList p.T (Q .normal) s):fS E (.region id ops true) Q s:=fun R w β a F hr hf=>by
 simp only [EG,Cw,nh,Bool.and_eq_true] at dE
 obtain ⟨⟨⟨hA,hP⟩,hF⟩,hT⟩:=dE
 refine wpIn_region_any E.mixed ?_
 obtain ⟨q1,q2⟩:=hr.drawn
 have hK:Inv (fun s=>∃ u,oY u s∧Q .normal u):=fun s t e ⟨u,h1,h2⟩=>⟨u,h1.trans e,h2⟩
 have h':=fA (K':=fun s=>∃ u,oY u s∧Q .normal u) (fun s h=>⟨s,oY.refl s,h⟩) p.T s h
 have iz:nb (Jx p.de) (Array.replicate ops.size false):=fun i hi=>by
  rw [Array.getD_eq_getD_getElem?,Array.getElem?_replicate] at hi
  split at hi <;> cases hi
 have Jy:=(ot (E:=E) (f:=f) (EF hA) hP hF hK p.T ops.size [] (Array.replicate ops.size false) 0 (fun k hk=>by simp at hk) iz ⟨by simp,fun i hi=>by simp [hi]⟩).1 hT s h'
 refine wK (R:=R) (w:=w) (β:=β) (s:=s) (f:=f) (K:=fun s=>∃ u,oY u s∧Q .normal u) ?_ _ _ R _ β s a q1 q2 rfl hf Jy
 rintro a' w' ⟨s',R',β',⟨u,e,hu⟩,h2,h3,h4⟩
 exact ⟨u,R',β',hu,h2.eqv e.symm,h3.eqv rfl e.symm.b,e.ro.trans h4⟩
end
end Go.Am
