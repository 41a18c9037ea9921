/- The abstract machine: regions whose order the tape draws,along a tree of choices that was checked. -/
import Derived.Test.YtegoimldbgdeiaaAmKG
set_option linter.all false
namespace Go.Am
open Go
section
variable {E:Env} {s t:St} {f:FuncId} {ops:Array Oper} {o oj oi:Oper} {d:Tmp} {x:SV} {K K':St→Prop} {da:Nat→List Nat} {C:List Nat}
def Fc (E:Env) (f:FuncId) (ops:Array Oper) (da:Nat→List Nat) (C:List Nat) (i:Nat) (s:St):Prop:=
 ∀ j∈C,∀ oj oi,ops[j]?=some oj→ops[i]?=some oi→iK oj oi=true→j∉da i→Cs E f ops.toList oj s
def NC (ops:Array Oper) (C:List Nat):Prop:=∀ j∈C,∀ oj,ops[j]?=some oj→ra oj.op=true
theorem od {i:Nat} (hC:NC ops C):Inv (Fc E f ops da C i):=fun _ _ e h j hj oj oi h1 h2 h3 h4=>Jj (hC j hj oj h1) e (h j hj oj oi h1 h2 h3 h4)
def fx (E:Env) (f:FuncId) (ops:Array Oper) (da:Nat→List Nat) (C:List Nat) (K:St→Prop):Nat→Array Bool→St→Prop
 | 0,listed,s=>Region.ready .any ops listed=[]∧K s
 | n+1,listed,s=>(Region.ready .any ops listed=[]→K s) ∧
   ∀ i∈Region.ready .any ops listed,∀ oi,ops[i]?=some oi→bU E f ops.toList oi (fun s'=>Fc E f ops da C i s'∧fx E f ops da C K n (listed.setIfInBounds i true) s') s
theorem gI (hC:NC ops C) (hK:Inv K):∀ n listed,Inv (fx E f ops da C K n listed)
 | 0,_=>fun s t e h=>⟨h.1,hK s t e h.2⟩
 | n+1,_=>fun s t e h=>⟨fun h0=>hK s t e (h.1 h0),fun i hi oi qv=>Ax (fun s t e h=>⟨od hC s t e h.1,gI hC hK n _ s t e h.2⟩) s t e (h.2 i hi oi qv)⟩
theorem ms {C':List Nat}:∀ n (listed:Array Bool) (s:St),
  (∀ k∈C',k∈C∨∀ i ok oi,ops[k]?=some ok→ops[i]?=some oi→listed.getD i true=false→iK ok oi=true→k∈da i) →
  fx E f ops da C K n listed s→fx E f ops da C' K n listed s
 | 0,_,_,_,h=>h
 | n+1,listed,s,hk,h=>⟨h.1,fun i hi oi qv=>bV (h.2 i hi oi qv) fun s' h'=>⟨fun k MN ok K7 h1 h2 h3 h4=>by
   rcases hk k MN with h5 | h5
   ·exact h'.1 k h5 ok K7 h1 h2 h3 h4
   ·exact absurd (h5 i ok K7 h1 h2 (mem_ready.1 hi).1 h3) h4,ms n _ s' (fun k MN=>by
   rcases hk k MN with h5 | h5
   ·exact .inl h5
   ·refine .inr fun i' ok K7 h1 h2 h3 h4=>h5 i' ok K7 h1 h2 ?_ h4
    by_cases e:i=i'
    ·subst e; exact (mem_ready.1 hi).1
    ·rw [getD_set_ne true e] at h3; exact h3) h'.2⟩⟩
def xH (ops:Array Oper) (da:Nat→List Nat):Prop:=∀ i oi a,ops[i]?=some oi→a∈da i→∃ e∈oi.after,Region.binds .any e=true∧(e.on=a∨a∈da e.on)
def mu (da:Nat→List Nat) (listed:Array Bool):Prop:=∀ i,listed.getD i false=true→∀ a∈da i,listed.getD a false=true
theorem mu.ready {listed:Array Bool} (h:mu da listed) (ha:xH ops da) {i:Nat} (hi:i∈Region.ready .any ops listed):∀ a∈da i,listed.getD a false=true:=fun a S5=>by
 obtain ⟨_,o,ho,qw⟩:=mem_ready.1 hi
 obtain ⟨e,he,hb,h2⟩:=ha i o a ho S5
 rcases h2 with rfl | h2
 ·exact qw e he hb
 ·exact h _ (qw e he hb) a h2
theorem jf {listed:Array Bool} {i:Nat} (h:listed.getD i false=true):listed.getD i true=true:=by
 rw [Array.getD_eq_getD_getElem?] at *
 cases hl:listed[i]? with
 | none=>rw [hl] at h; cases h
 | some b=>rw [hl] at h; exact h
theorem mu.add {listed:Array Bool} (h:mu da listed) (ha:xH ops da) {i:Nat} (hi:i∈Region.ready .any ops listed):mu da (listed.setIfInBounds i true):=fun k hk a S5=>by
 by_cases e:i=k
 ·subst e
  exact getD_set_true (h.ready ha hi a S5)
 ·rw [getD_set_ne false e] at hk
  exact getD_set_true (h k hk a S5)
theorem Cy (hA:xH ops da) (hC:NC ops C) (hK:Inv K) {j:Nat} (hj:ops[j]?=some oj) (hN:ra oj.op=true) (DJ:oj.dst=some d) (Az:d∉oj.looksAt ops)
  (Ui:∀ k∈C,∀ ok,ops[k]?=some ok→d∉ok.looksAt ops∧ok.dst≠some d):∀ n (listed:Array Bool) (s:St) (x:SV),mu da listed →
   (∀ i oi,ops[i]?=some oi→i≠j→listed.getD i true=false→(∀ e∈oi.after,Region.binds .any e=true→e.on≠j)→oj.apart ops oi=true) →
   j∈Region.ready .any ops listed→uJ E f ops oj s x→fx E f ops da (j :: C) K n (listed.setIfInBounds j true) (s.put (some d) x)→fx E f ops da C K (n+1) listed s:=by
 have IM:NC ops (j :: C):=fun k hk ok ho=>by
  rcases List.mem_cons.1 hk with rfl | hk
  ·rw [hj] at ho; cases ho; exact hN
  ·exact hC k hk ok ho
 have self:∀ n (listed:Array Bool) (s:St) (x:SV),uJ E f ops oj s x→fx E f ops da (j :: C) K n (listed.setIfInBounds j true) (s.put (some d) x)→∀ oi,ops[j]?=some oi →
   bU E f ops.toList oi (fun s'=>Fc E f ops da C j s'∧fx E f ops da C K n (listed.setIfInBounds j true) s') s:=fun n listed s x hx h oi qv=>by
  rw [hj] at qv
  cases qv
  refine uL hN (fun s t e h=>⟨od hC s t e h.1,gI hC hK _ _ s t e h.2⟩) hx ?_
  rw [DJ]
  refine ⟨fun k _ ok K7 _ h2 h3 _=>?_,ms n _ _ (fun k hk=>.inl (List.mem_cons_of_mem _ hk)) h⟩
  rw [hj] at h2
  cases h2
  simp [iK,Av hN,hN] at h3
 intro n
 induction n with
 | zero=>
  intro listed s x _ _ hr hx h
  refine ⟨fun h0=>by rw [h0] at hr; simp at hr,fun i hi oi qv=>?_⟩
  by_cases e:i=j
  ·subst e; exact self 0 listed s x hx h oi qv
  ·have:=ready_mono hi e
   rw [h.1] at this
   simp at this
 | succ n ih=>
  intro listed s x jd jX hr hx h
  refine ⟨fun h0=>by rw [h0] at hr; simp at hr,fun i hi oi qv=>?_⟩
  by_cases e:i=j
  ·subst e; exact self (n+1) listed s x hx h oi qv
  ·have GW:=(mem_ready.1 hi).1
   have Jo:=(mem_ready.1 hr).1
   have Mk:∀ ed∈oi.after,Region.binds .any ed=true→ed.on≠j:=fun ed he hb jL=>by
    obtain ⟨_,o,ho,qw⟩:=mem_ready.1 hi
    rw [qv] at ho
    cases ho
    have h1:=jf (qw ed he hb)
    rw [jL,Jo] at h1
    cases h1
   have PZ:=jX i oi qv e GW Mk
   have hG:=h.2 i (ready_mono hi e) oi qv
   have GX:j∉da i:=fun hm=>by
    have h1:=jf (jd.ready hA hi j hm)
    rw [Jo] at h1
    cases h1
   have S6:Inv (fun s'=>Fc E f ops da (j :: C) i s'∧fx E f ops da (j :: C) K n ((listed.setIfInBounds j true).setIfInBounds i true) s'):=
    fun s t e h=>⟨od IM s t e h.1,gI IM hK _ _ s t e h.2⟩
   have MO:∀ k ok,ops[k]?=some ok→k≠j→(listed.setIfInBounds i true).getD k true=false→(∀ e∈ok.after,Region.binds .any e=true→e.on≠j)→oj.apart ops ok=true:=fun k ok hk Uj Rg rJ=>by
    refine jX k ok hk Uj ?_ rJ
    by_cases e':i=k
    ·subst e'; exact GW
    ·rw [getD_set_ne true e'] at Rg; exact Rg
   have core:∀ {pre:aW} {preB:cA} {G:List GO},PX (bJ oi.op) oi.dst pre→(ra oi.op=true→preB=[]∧G=s.G) →
     (Fc E f ops da (j :: C) i ((s.put (some d) x).fb pre preB G)∧fx E f ops da (j :: C) K n ((listed.setIfInBounds j true).setIfInBounds i true) ((s.put (some d) x).fb pre preB G)) →
     Fc E f ops da C i (s.fb pre preB G)∧fx E f ops da C K (n+1) (listed.setIfInBounds i true) (s.fb pre preB G):=by
    intro pre preB G AA Re hk
    obtain ⟨x',sO,ja⟩:=E6 hN DJ Az PZ S6 hx AA Re hk (fun t' uO hd=>uO.1 j (List.mem_cons_self ..) oj oi hj qv hd GX)
    refine ⟨fun k MN ok K7 h1 h2 h3 h4=>?_,?_⟩
    ·obtain ⟨q1,q2⟩:=Ui k MN ok h1
     obtain ⟨b1,b2,b3,_⟩:=fP (s.fb pre preB G) (some d) x'
     exact Ji (hC k MN ok h1) q1 q2 (fun e he=>tp _ _ _ he) (by rw [b1]) b2 b3 (ja.1 k (List.mem_cons_of_mem _ MN) ok K7 h1 h2 h3 h4)
    ·refine ih (listed.setIfInBounds i true) _ x' (jd.add hA hi) MO (ready_mono hr (Ne.symm e)) sO ?_
     rw [Array.setIfInBounds_comm _ _ e]
     exact ja.2
   rw [fO (fun s t e h=>⟨od hC s t e h.1,gI hC hK _ _ s t e h.2⟩)]
   obtain ⟨Jd,_,_⟩:=Oper.apart_spec PZ
   have ua:∀ e∈oi.looksAt ops,lk (s.put (some d) x).ae e=lk s.ae e:=fun e he=>tp s d x fun k=>Jd d DJ (k ▸ he)
   obtain ⟨b1,b2,b3,b4,b5⟩:=fP s (some d) x
   rcases (fO S6).1 hG with ⟨h1,h2⟩ | ⟨h1,h2⟩
   ·refine .inl ⟨by rw [← jN ua]; exact h1,rO b3 b2 (by rw [b1]) (j5 ua) h2 fun pre preB G hp Re hk=>core hp (fun hh=>?_) hk⟩
    obtain ⟨q1,q2⟩:=Re hh
    exact ⟨q1,by rw [q2,b2]⟩
   ·refine .inr ⟨by rw [← jN ua]; exact h1,?_⟩
    obtain ⟨pre,preB,G,p1,p2,p3,p4⟩:=bC.put (s:=s.put (some d) x) (t:=s) (al:=bJ oi.op) (w:=false) b3 b2 oi.dst (.v fG)
    obtain ⟨q1,q2,_⟩:=p2 rfl
    rw [p3] at h2
    rw [p4]
    exact core p1 (fun _=>⟨q1,by rw [q2,b2]⟩) h2
theorem DN {i:Nat} {s:St}:Fc E f ops da [] i s:=fun j hj=>by cases hj
theorem MP {y:Operand} {k off:Nat} (h:bi E s.ae y=.lp k off):∃ e,y=.tmp e∧lk s.ae e=.lp k off:=by
 cases y with
 | tmp e=>exact ⟨e,rfl,h⟩
 | const v=>simp only [bi] at h; split at h <;> cases h
 | global g=>simp only [bi] at h; split at h <;> cases h
 | func g=>cases h
theorem GY (hA:xH ops da) (hK:Inv K) {j:Nat} (hj:ops[j]?=some oj) (hg:oj.guard=none) (DJ:oj.dst=some d) (E7:bJ oj.op=true) (MQ:E.wG f d=false):∀ n (listed:Array Bool) (s s1:St),mu da listed →
  (∀ i oi,ops[i]?=some oi→i≠j→listed.getD i true=false→j∉da i→oj.apart ops oi=true∧∀ e∈oi.looksAt ops,∀ off,lk s.ae e≠.lp d off) →
  j∈Region.ready .any ops listed→an E f s oj=some (true,s1)→fx E f ops da [] K n (listed.setIfInBounds j true) s1→fx E f ops da [] K (n+1) listed s:=by
 have IM:NC ops []:=fun k hk=>by cases hk
 have self:∀ n (listed:Array Bool) (s s1:St),an E f s oj=some (true,s1)→fx E f ops da [] K n (listed.setIfInBounds j true) s1→∀ oi,ops[j]?=some oi →
   bU E f ops.toList oi (fun s'=>Fc E f ops da [] j s'∧fx E f ops da [] K n (listed.setIfInBounds j true) s') s:=fun n listed s s1 hx h oi qv=>by
  rw [hj] at qv
  cases qv
  unfold bU
  rw [hg]
  exact (DM E7).2 ⟨s1,hx,DN,h⟩
 intro n
 induction n with
 | zero=>
  intro listed s s1 _ _ hr hx h
  refine ⟨fun h0=>by rw [h0] at hr; simp at hr,fun i hi oi qv=>?_⟩
  by_cases e:i=j
  ·subst e; exact self 0 listed s s1 hx h oi qv
  ·have:=ready_mono hi e
   rw [h.1] at this
   simp at this
 | succ n ih=>
  intro listed s s1 jd jX hr hx h
  refine ⟨fun h0=>by rw [h0] at hr; simp at hr,fun i hi oi qv=>?_⟩
  by_cases e:i=j
  ·subst e; exact self (n+1) listed s s1 hx h oi qv
  ·have GW:=(mem_ready.1 hi).1
   have Jo:=(mem_ready.1 hr).1
   have GX:j∉da i:=fun hm=>by
    have h1:=jf (jd.ready hA hi j hm)
    rw [Jo] at h1
    cases h1
   obtain ⟨PZ,rJ⟩:=jX i oi qv e GW GX
   obtain ⟨Jd,cM,uo⟩:=Oper.apart_spec PZ
   have GV:oi.dst≠some d:=cM d DJ
   obtain ⟨_,cs,rfl,DB⟩:=Cw E7 DJ MQ hx
   have hG:=h.2 i (ready_mono hi e) oi qv
   have S6:Inv (fun s'=>Fc E f ops da [] i s'∧fx E f ops da [] K n ((listed.setIfInBounds j true).setIfInBounds i true) s'):=
    fun s t e h=>⟨od IM s t e h.1,gI IM hK _ _ s t e h.2⟩
   have Fb:∀ y∈oi.op.operands,∀ off,bi E s.ae y≠.lp d off:=fun y hy off hv=>by
    obtain ⟨e',rfl,hv⟩:=MP hv
    exact rJ e' (mr hy) off hv
   have core:∀ {pre:aW} {preB:cA} {G:List GO},gX E s oi (s.fb pre preB G) →
     (Fc E f ops da [] i ((pz s d cs).fb pre preB G)∧fx E f ops da [] K n ((listed.setIfInBounds j true).setIfInBounds i true) ((pz s d cs).fb pre preB G)) →
     Fc E f ops da [] i (s.fb pre preB G)∧fx E f ops da [] K (n+1) (listed.setIfInBounds i true) (s.fb pre preB G):=by
    intro pre preB G Jn hk
    refine ⟨DN,?_⟩
    obtain ⟨o1,o2⟩:=DL Jn
    have ua:∀ e' off,oi.dst≠some e'∨lk (s.fb pre preB G).ae e'=.lp d off→lk (s.fb pre preB G).ae e'=.lp d off→lk s.ae e'=.lp d off:=by
     intro e' off _ hv
     have hv:lk (pre++s.ae) e'=.lp d off:=hv
     rcases o1 with rfl | ⟨d',x,Ds,hp,Jp⟩
     ·exact hv
     ·have sO:∀ off,x≠.lp d off:=fun off c=>by
       rcases Jp d off c with ⟨y,hy,fH,ho⟩ | ⟨_,h⟩
       ·exact Fb y hy fH ho
       ·exact GV (by rw [Ds,h])
      by_cases c2:d'=e'
      ·subst c2
       rcases hp with rfl | rfl
       ·simp only [List.cons_append,List.nil_append,ay] at hv; exact absurd hv (sO off)
       ·simp only [List.cons_append,List.nil_append,ay] at hv; exact absurd hv (sO off)
      ·rcases hp with rfl | rfl
       ·simp only [List.cons_append,List.nil_append] at hv; rwa [aL c2] at hv
       ·simp only [List.cons_append,List.nil_append] at hv
        rw [aL c2,iL] at hv
        cases hl:lk s.ae e' with
        | lp k fH=>
         rw [hl] at hv
         simp only at hv
         cases hb:Nat.beq k d' with
         | true=>rw [hb] at hv; cases hv
         | false=>rw [hb] at hv; exact hv
        | v a=>rw [hl] at hv; cases hv
        | none=>rw [hl] at hv; cases hv
    refine ih (listed.setIfInBounds i true) _ _ (jd.add hA hi) ?_ (ready_mono hr (Ne.symm e)) (DB (s.fb pre preB G) rfl ?_) ?_
    ·intro k ok ja Uj Rg Uk
     have Ul:listed.getD k true=false:=by
      by_cases e':i=k
      ·subst e'; exact GW
      ·rw [getD_set_ne true e'] at Rg; exact Rg
     obtain ⟨q1,q2⟩:=jX k ok ja Uj Ul Uk
     exact ⟨q1,fun e' IN off hv=>q2 e' IN off (ua e' off (.inr hv) hv)⟩
    ·intro y hy v hv
     cases y with
     | tmp e'=>
      have Ds:oi.dst≠some e':=fun c=>uo e' c (mr hy)
      have hv:lk s.ae e'=.v v:=hv
      show lk (pre++s.ae) e'=.v v
      rcases o1 with rfl | ⟨d',x,MH,hp,_⟩
      ·exact hv
      ·have c2:d'≠e':=fun c=>Ds (by rw [MH,c])
       rcases hp with rfl | rfl
       ·simp only [List.cons_append,List.nil_append]; rw [aL c2]; exact hv
       ·simp only [List.cons_append,List.nil_append]
        rw [aL c2,uN (fun off=>by rw [hv]; intro c; cases c)]; exact hv
     | const _=>exact hv
     | global _=>exact hv
     | func _=>exact hv
    ·rw [Array.setIfInBounds_comm _ _ e]
     exact gI IM hK _ _ _ _ (Fa cs Jn GV Fb) hk.2
   have yP:∀ e'∈oi.looksAt ops,lk (pz s d cs).ae e'=lk s.ae e':=fun e' IN=>by
    have c1:d≠e':=fun c=>Jd d DJ (c ▸ IN)
    show lk (.put d (.lp d 0) :: .kill d :: s.ae) e'=_
    rw [aL c1,uN (rJ e' IN)]
   have B0:∀ k off,(∃ y∈oi.op.operands,bi E (pz s d cs).ae y=.lp k off)→dy (pz s d cs).boxes k=dy s.boxes k:=by
    rintro k off ⟨y,hy,hv⟩
    rw [j5 yP y hy] at hv
    have IE:d≠k:=fun c=>Fb y hy off (by rw [c]; exact hv)
    show dy ((d,cs) :: s.boxes) k=dy s.boxes k
    simp only [dy]
    cases hb:Nat.beq d k with
    | true=>exact absurd (Nat.eq_of_beq_eq_true hb) IE
    | false=>rfl
   rw [fO (fun s t e h=>⟨od IM s t e h.1,gI IM hK _ _ s t e h.2⟩)]
   rcases (fO S6).1 hG with ⟨h1,h2⟩ | ⟨h1,h2⟩
   ·exact .inl ⟨by rw [← jN yP]; exact h1,Cx (s:=pz s d cs) (t:=s) rfl rfl B0 (j5 yP) h2 fun pre preB G hO hk=>core hO hk⟩
   ·refine .inr ⟨by rw [← jN yP]; exact h1,?_⟩
    obtain ⟨pre,preB,G,p1,p2,p3,p4⟩:=bC.put (s:=pz s d cs) (t:=s) (al:=bJ oi.op) (w:=false) rfl rfl oi.dst (.v fG)
    rw [p3] at h2
    have hO:gX E s oi (s.put oi.dst (.v fG)):=j6 rfl rfl _
    rw [p4] at hO ⊢
    exact core hO h2
end
inductive DT where
 | done
 | take (j:Nat) (C:List Nat) (t:DT)
 | br (i:Nat) (re C:List Nat) (t:DT) (more:DT)
 | stop
 | al (j:Nat) (W:List Nat) (t:DT)
structure mw where
 dst:Option Tmp
 lo:List Tmp
 pr:List Nat
 n:Bool
 r:Bool
 a:Bool
def DO (d:Nat) (s:aW):List Nat→Bool
 | []=>true
 | e :: l=>(match lk s e with
  | .lp k _=>!Nat.beq k d
  | _=>true)&&DO d s l
def MR (E:Env) (f:FuncId) (o:Oper) (W:List Nat) (s:St):Bool:=match o.guard,o.dst with
 | none,some d=>!E.wG f d&&DO d s.ae W
 | _,_=>false
def jg (x:Nat):List Nat→Bool
 | []=>false
 | y :: l=>Nat.beq x y || jg x l
def oe:List Edge→List Nat
 | []=>[]
 | e :: l=>bif Region.binds .any e then e.on :: oe l else oe l
def j7 (ops:Array Oper) (o:Oper):mw:=⟨o.dst,o.looksAt ops,oe o.after.toList,ra o.op,MM o.op,bJ o.op⟩
def yQ {α:Type} (n:Nat) (K:Nat→α):α:=match n with
 | 0=>K 0
 | m+1=>K (Nat.succ m)
def xI {α:Type}:List Nat→(List Nat→α)→α
 | [],K=>K []
 | a :: l,K=>yQ a fun a=>xI l fun l=>K (a :: l)
def MS {α:Type} (i:mw) (K:mw→α):α:=match i with
 | ⟨d,lo,pr,n,r,a⟩=>xI lo fun lo=>xI pr fun pr=>(match d with
  | none=>(fun (K:Option Tmp→α)=>K none)
  | some d=>(fun (K:Option Tmp→α)=>yQ d fun d=>K (some d))) fun d=>(bif n then (fun (K:Bool→α)=>K true) else fun K=>K false) fun n=>
   (bif r then (fun (K:Bool→α)=>K true) else fun K=>K false) fun r=>(bif a then (fun (K:Bool→α)=>K true) else fun K=>K false) fun a=>K ⟨d,lo,pr,n,r,a⟩
def DP {α:Type}:List mw→(List mw→α)→α
 | [],K=>K []
 | i :: l,K=>MS i fun i=>DP l fun l=>K (i :: l)
def rQ (x y:mw):Bool:=
 (match x.dst with
 | some d=>!jg d y.lo&&(match y.dst with | some e=>!Nat.beq e d | none=>true)
 | none=>true) &&
 (match y.dst with
 | some d=>!jg d x.lo
 | none=>true)
def AD (j:Nat) (x:mw) (cf:List Nat):Nat→List mw→Bool
 | _,[]=>true
 | i,y :: l=>(Nat.beq i j || jg j y.pr || jg i cf || rQ x y)&&AD j x cf (i+1) l
def AE (I:List mw):Nat→List mw→List (List Nat)→Bool
 | _,[],_=>true
 | j,x :: l,c :: cs=>(!x.n || AD j x c 0 I)&&AE I (j+1) l cs
 | _,_,_=>false
def uP (da:Nat→List Nat):Nat→List mw→Bool
 | _,[]=>true
 | i,x :: l=>(da i).all (fun a=>x.pr.any fun e=>Nat.beq e a || jg a (da e))&&uP da (i+1) l
def my (L:Nat):Nat→List mw→List Nat
 | _,[]=>[]
 | i,x :: l=>bif !L.testBit i&&x.pr.all (fun e=>L.testBit e) then i :: my L (i+1) l else my L (i+1) l
def og (x y:mw):Bool:=y.a || (x.r&&!y.n)
def oh (da:Nat→List Nat) (L k:Nat) (x:mw):Nat→List mw→Bool
 | _,[]=>true
 | i,y :: l=>(L.testBit i || !og x y || jg k (da i))&&oh da L k x (i+1) l
def tq (I:List mw) (da:Nat→List Nat) (L:Nat) (C C':List Nat):Bool:=C.all fun k=>jg k C' || match nth I k with
 | none=>false
 | some x=>oh da L k x 0 I
def K8 (I:List mw) (da:Nat→List Nat) (C re:List Nat) (i:Nat) (y:mw):Bool:=C.all fun k=>jg k re || match nth I k with
 | none=>false
 | some x=>!og x y || jg k (da i)
def DQ (da:Nat→List Nat) (L:Nat) (W:List Nat) (j:Nat) (x:mw):Nat→List mw→Bool
 | _,[]=>true
 | i,y :: l=>(Nat.beq i j || L.testBit i || jg j (da i) || (rQ x y&&y.lo.all fun e=>jg e W))&&DQ da L W j x (i+1) l
def DR (I:List mw) (C:List Nat):Bool:=C.all fun k=>match nth I k with
 | some x=>x.n
 | none=>false
def kB (I:List mw) (N:Nat) (da:Nat→List Nat) (cf:List (List Nat)):DT→Nat→List Nat→Nat→Option (List Nat)→Bool
 | .done,_,_,L,none=>Nat.beq L N
 | .take j C' t,n+1,C,L,none=>match nth I j,nth cf j with
  | some x,some c=>match x.dst with
   | none=>false
   | some d=>x.n&&!jg d x.lo&&(C.all fun k=>match nth I k with
     | none=>false
     | some y=>!jg d y.lo&&(match y.dst with | some e=>!Nat.beq e d | none=>true)) &&
    c.all (fun i=>L.testBit i)&&!L.testBit j&&x.pr.all (fun e=>L.testBit e)&&DR I C' &&
    yQ (L ||| 2 ^ j) fun L'=>tq I da L' (j :: C) C'&&kB I N da cf t n C' L' none
  | _,_=>false
 | .br i re C' t more,n+1,C,L,left=>match nth I i with
  | none=>false
  | some y=>(match left with
   | none=>fun (K:List Nat→Bool)=>xI (my L 0 I) K
   | some l=>fun K=>K l) fun l=>
    K8 I da C re i y&&DR I C'&&jg i l&&(yQ (L ||| 2 ^ i) fun L'=>tq I da L' C C'&&kB I N da cf t n C' L' none) &&
     kB I N da cf more (n+1) C L (some (l.filter fun k=>!Nat.beq k i))
 | .stop,_,_,_,some l=>l.isEmpty
 | .al j W t,n+1,C,L,none=>match nth I j with
  | some x=>match x.dst with
   | none=>false
   | some _=>C.isEmpty&&x.a&&!L.testBit j&&x.pr.all (fun e=>L.testBit e)&&DQ da L W j x 0 I&&yQ (L ||| 2 ^ j) fun L'=>kB I N da cf t n [] L' none
  | none=>false
 | _,_,_,_,_=>false
def xJ (E:Env) (f:FuncId) (ops:List Oper):List Nat→St→Prop
 | [],_=>True
 | k :: l,s=>(match nth ops k with
  | some ok=>Cs E f ops ok s
  | none=>True)∧xJ E f ops l s
def rb (E:Env) (f:FuncId) (ops:List Oper):DT→(St→Prop)→St→Prop
 | .done,K,s=>K s
 | .take j _ t,K,s=>match nth ops j with
  | some oj=>bU E f ops oj (rb E f ops t K) s
  | none=>False
 | .br i re _ t more,K,s=>(match nth ops i with
  | some oi=>bU E f ops oi (fun s'=>xJ E f ops re s'∧rb E f ops t K s') s
  | none=>False)∧rb E f ops more K s
 | .stop,_,_=>True
 | .al j W t,K,s=>match nth ops j with
  | some oj=>MR E f oj W s=true∧bU E f ops oj (rb E f ops t K) s
  | none=>False
def GZ (l:List (List Nat)) (i:Nat):List Nat:=match nth l i with
 | some a=>a
 | none=>[]
section
variable {E:Env} {s t:St} {f:FuncId} {ops:Array Oper} {K:St→Prop} {da:Nat→List Nat}
theorem eD {x:Nat}:∀ {l:List Nat},jg x l=true↔x∈l
 | []=>by simp [jg]
 | y :: l=>by simp [jg,eD (l:=l)]
theorem mz {α:Type} (n:Nat) (K:Nat→α):yQ n K=K n:=by cases n <;> rfl
theorem uQ {α:Type}:∀ (l:List Nat) (K:List Nat→α),xI l K=K l
 | [],_=>rfl
 | a :: l,K=>by simp only [xI,mz]; rw [uQ]
theorem Jq {α:Type} (i:mw) (K:mw→α):MS i K=K i:=by
 obtain ⟨d,lo,pr,n,r,a⟩:=i
 cases d <;> cases n <;> cases r <;> cases a <;> simp [MS,uQ,mz]
theorem AF {α:Type}:∀ (l:List mw) (K:List mw→α),DP l K=K l
 | [],_=>rfl
 | a :: l,K=>by simp only [DP,Jq]; rw [AF]
def j8 (ops:Array Oper):List mw:=ops.toList.map (j7 ops)
theorem qx {k:Nat} {x:mw} (h:nth (j8 ops) k=some x):∃ o,ops[k]?=some o∧x=j7 ops o:=by
 rw [aU,j8,List.getElem?_map,Array.getElem?_toList] at h
 cases ho:ops[k]? with
 | none=>rw [ho] at h; cases h
 | some o=>rw [ho] at h; exact ⟨o,rfl,by simpa using h.symm⟩
theorem iq {e:Nat}:∀ {l:List Edge},e∈oe l↔∃ ed∈l,Region.binds .any ed=true∧ed.on=e
 | []=>by simp [oe]
 | x :: l=>by
  unfold oe
  cases hb:Region.binds .any x with
  | true=>
   simp only [cond_true,List.mem_cons,iq (l:=l),exists_eq_or_imp,hb,true_and]
   constructor
   ·rintro (h | h)
    ·exact .inl h.symm
    ·exact .inr h
   ·rintro (h | h)
    ·exact .inl h.symm
    ·exact .inr h
  | false=>simp only [cond_false,List.mem_cons,iq (l:=l),exists_eq_or_imp,hb,false_and,false_or,Bool.false_eq_true]
theorem xK {x y:Oper} (h:rQ (j7 ops x) (j7 ops y)=true):x.apart ops y=true:=by
 have hm:∀ (d:Nat) (l:List Nat),jg d l=false→l.contains d=false:=fun d l h=>by
  cases hc:l.contains d with
  | false=>rfl
  | true=>rw [eD.2 (by simpa using hc)] at h; cases h
 unfold rQ at h
 unfold Oper.apart
 simp only [j7,Bool.and_eq_true] at h ⊢
 refine ⟨?_,?_⟩
 ·cases hx:x.dst with
  | none=>rfl
  | some d=>
   rw [hx] at h
   simp only [Bool.and_eq_true,Bool.not_eq_true'] at h ⊢
   refine ⟨hm _ _ h.1.1,?_⟩
   have h2:=h.1.2
   cases hy:y.dst with
   | none=>rfl
   | some e=>
    rw [hy] at h2
    simp only [Bool.not_eq_true'] at h2
    have:e≠d:=fun k=>by rw [k,pV] at h2; cases h2
    simpa using this
 ·cases hy:y.dst with
  | none=>rfl
  | some d=>
   rw [hy] at h
   simp only [Bool.not_eq_true'] at h ⊢
   exact hm _ _ h.2
def AG (ops:Array Oper) (L:Nat) (listed:Array Bool):Prop:=listed.size=ops.size∧∀ i,i < ops.size→listed[i]?=some (L.testBit i)
theorem AG.add {L:Nat} {listed:Array Bool} (h:AG ops L listed) (j:Nat):AG ops (L ||| 2 ^ j) (listed.setIfInBounds j true):=by
 refine ⟨by simp [h.1],fun i hi=>?_⟩
 rw [Nat.testBit_or,Nat.testBit_two_pow]
 by_cases e:j=i
 ·subst e
  rw [Array.getElem?_setIfInBounds_self_of_lt (by rw [h.1]; exact hi)]
  simp
 ·rw [Array.getElem?_setIfInBounds_ne e,h.2 i hi]
  simp [e]
theorem AG.AH {L:Nat} {listed:Array Bool} (h:AG ops L listed) {i:Nat} (hi:i < ops.size) (b:Bool):listed.getD i b=L.testBit i:=by
 rw [Array.getD_eq_getD_getElem?,h.2 i hi]; rfl
theorem pA {L:Nat} {listed:Array Bool} (h:AG ops L listed) {j:Nat} {o:Oper} (ho:ops[j]?=some o) (h1:L.testBit j=false) (h2:((j7 ops o).pr.all fun e=>L.testBit e)=true)
  (bT:∀ e∈o.after,Region.binds .any e=true→e.on < ops.size):j∈Region.ready .any ops listed:=by
 have hj:j < ops.size:=(Array.getElem?_eq_some_iff.1 ho).1
 refine mem_ready.2 ⟨by rw [h.AH hj]; exact h1,o,ho,fun e he hb=>?_⟩
 rw [h.AH (bT e he hb)]
 exact List.all_eq_true.1 h2 e.on (iq.2 ⟨e,by simpa using he,hb,rfl⟩)
def MT (n:Nat) (I:List mw):Bool:=I.all fun x=>x.pr.all fun e=>Nat.blt e n
theorem gq {k:Nat} {o:Oper} (h:ops[k]?=some o):nth (j8 ops) k=some (j7 ops o):=by
 rw [aU,j8,List.getElem?_map,Array.getElem?_toList,h]; rfl
theorem j9 {k:Nat} {o:Oper} (h:ops[k]?=some o):(j8 ops)[k]?=some (j7 ops o):=by
 rw [← aU]; exact gq h
theorem ol (h:MT ops.size (j8 ops)=true) {k:Nat} {o:Oper} (ho:ops[k]?=some o):∀ e∈o.after,Region.binds .any e=true→e.on < ops.size:=fun e he hb=>by
 have h1:=List.all_eq_true.1 h (j7 ops o) (List.mem_of_getElem? (j9 ho))
 have h2:=List.all_eq_true.1 h1 e.on (iq.2 ⟨e,by simpa using he,hb,rfl⟩)
 exact Nat.le_of_ble_eq_true h2
theorem uR {j:Nat} {x:mw} {c:List Nat}:∀ {l:List mw} {i:Nat},AD j x c i l=true→∀ k y,l[k]?=some y→(Nat.beq (i+k) j || jg j y.pr || jg (i+k) c || rQ x y)=true
 | [],_,_,k,y,hk=>by simp at hk
 | z :: l,i,h,k,y,hk=>by
  unfold AD at h
  rw [Bool.and_eq_true] at h
  cases k with
  | zero=>simp at hk; subst hk; exact h.1
  | succ k=>
   have:=uR h.2 k y (by simpa using hk)
   rw [show i+1+k=i+(k+1) by omega] at this
   exact this
theorem uS {I:List mw}:∀ {l:List mw} {j:Nat} {cs:List (List Nat)},AE I j l cs=true→∀ k x c,l[k]?=some x→cs[k]?=some c→x.n=true→AD (j+k) x c 0 I=true
 | [],_,_,_,k,x,c,hk,_,_=>by simp at hk
 | z :: l,j,[],_,k,x,c,_,hc,_=>by simp at hc
 | z :: l,j,d :: cs,h,k,x,c,hk,hc,hn=>by
  unfold AE at h
  rw [Bool.and_eq_true] at h
  cases k with
  | zero=>
   simp at hk hc
   subst hk hc
   have:=h.1
   rw [hn] at this
   simpa using this
  | succ k=>
   have:=uS h.2 k x c (by simpa using hk) (by simpa using hc) hn
   rw [show j+1+k=j+(k+1) by omega] at this
   exact this
theorem sx:∀ {l:List mw} {i:Nat},uP da i l=true→∀ k x,l[k]?=some x→∀ a∈da (i+k),∃ e∈x.pr,e=a∨a∈da e
 | [],_,_,k,x,hk=>by simp at hk
 | z :: l,i,h,k,x,hk=>by
  unfold uP at h
  rw [Bool.and_eq_true] at h
  cases k with
  | zero=>
   simp at hk
   subst hk
   intro a ha
   have h1:=List.all_eq_true.1 h.1 a ha
   obtain ⟨e,he,h2⟩:=List.any_eq_true.1 h1
   rw [Bool.or_eq_true] at h2
   refine ⟨e,he,?_⟩
   rcases h2 with h2 | h2
   ·exact .inl (Nat.eq_of_beq_eq_true h2)
   ·exact .inr (eD.1 h2)
  | succ k=>
   have:=sx h.2 k x (by simpa using hk)
   rw [show i+1+k=i+(k+1) by omega] at this
   exact this
theorem Cz (h:uP da 0 (j8 ops)=true):xH ops da:=fun i oi a hi ha=>by
 have h1:=sx h i _ (j9 hi) a (by rw [Nat.zero_add]; exact ha)
 obtain ⟨e,he,h2⟩:=h1
 obtain ⟨ed,q1,q2,rfl⟩:=iq.1 he
 exact ⟨ed,by simpa using q1,q2,h2⟩
theorem nD {L:Nat}:∀ {l:List mw} {i k:Nat},k∈my L i l↔∃ j x,k=i+j∧l[j]?=some x∧L.testBit k=false∧(x.pr.all fun e=>L.testBit e)=true
 | [],i,k=>by simp [my]
 | z :: l,i,k=>by
  have ih:=nD (L:=L) (l:=l) (i:=i+1) (k:=k)
  have rest:(∃ j x,k=i+1+j∧l[j]?=some x∧L.testBit k=false∧(x.pr.all fun e=>L.testBit e)=true)↔∃ j x,k=i+(j+1)∧(z :: l)[j+1]?=some x∧L.testBit k=false∧(x.pr.all fun e=>L.testBit e)=true:=by
   constructor
   ·rintro ⟨j,x,h1,h2⟩; exact ⟨j,x,by omega,by simpa using h2⟩
   ·rintro ⟨j,x,h1,h2⟩; exact ⟨j,x,by omega,by simpa using h2⟩
  unfold my
  cases hc:(!L.testBit i&&z.pr.all fun e=>L.testBit e) with
  | true=>
   simp only [cond_true,List.mem_cons,ih,rest]
   rw [Bool.and_eq_true,Bool.not_eq_true'] at hc
   constructor
   ·rintro (rfl | ⟨j,x,h⟩)
    ·exact ⟨0,z,rfl,rfl,hc⟩
    ·exact ⟨j+1,x,h⟩
   ·rintro ⟨j,x,h1,h2⟩
    cases j with
    | zero=>exact .inl h1
    | succ j=>exact .inr ⟨j,x,h1,h2⟩
  | false=>
   simp only [cond_false,ih,rest]
   constructor
   ·rintro ⟨j,x,h⟩; exact ⟨j+1,x,h⟩
   ·rintro ⟨j,x,h1,h2,h3,h4⟩
    cases j with
    | zero=>
     simp at h2 h1
     subst h1 h2
     rw [h3,h4] at hc
     cases hc
    | succ j=>exact ⟨j,x,h1,h2,h3,h4⟩
theorem nE {L k:Nat} {x:mw}:∀ {l:List mw} {i:Nat},oh da L k x i l=true→∀ j y,l[j]?=some y→L.testBit (i+j)=false→og x y=true→k∈da (i+j)
 | [],_,_,j,y,hj=>by simp at hj
 | z :: l,i,h,j,y,hj=>by
  unfold oh at h
  rw [Bool.and_eq_true] at h
  cases j with
  | zero=>
   simp at hj
   subst hj
   intro h1 h2
   have h3:=h.1
   rw [Nat.add_zero] at h1
   rw [h1,h2] at h3
   exact eD.1 (by simpa using h3)
  | succ j=>
   have:=nE h.2 j y (by simpa using hj)
   rw [show i+1+j=i+(j+1) by omega] at this
   exact this
theorem sy {L:Nat} {listed:Array Bool} (hM:AG ops L listed) {C C':List Nat} (h:tq (j8 ops) da L C C'=true):∀ k∈C,k∈C'∨∀ i ok oi,ops[k]?=some ok→ops[i]?=some oi→listed.getD i true=false→iK ok oi=true→k∈da i:=fun k hk=>by
 have h1:=List.all_eq_true.1 h k hk
 rw [Bool.or_eq_true] at h1
 rcases h1 with h1 | h1
 ·exact .inl (eD.1 h1)
 ·refine .inr fun i ok oi q1 q2 q3 q4=>?_
  rw [gq q1] at h1
  have hi:i < ops.size:=(Array.getElem?_eq_some_iff.1 q2).1
  have:=nE h1 i _ (j9 q2) (by rw [Nat.zero_add,← hM.AH hi]; exact q3) q4
  rw [Nat.zero_add] at this
  exact this
theorem xL {C:List Nat} (h:DR (j8 ops) C=true):NC ops C:=fun k hk ok eY=>by
 have:=List.all_eq_true.1 h k hk
 rw [gq eY] at this
 exact this
theorem uT {L j:Nat} {x:mw} {W:List Nat}:∀ {l:List mw} {i:Nat},DQ da L W j x i l=true→∀ k y,l[k]?=some y→(Nat.beq (i+k) j || L.testBit (i+k) || jg j (da (i+k)) || (rQ x y&&y.lo.all fun e=>jg e W))=true
 | [],_,_,k,y,hk=>by simp at hk
 | z :: l,i,h,k,y,hk=>by
  unfold DQ at h
  rw [Bool.and_eq_true] at h
  cases k with
  | zero=>simp at hk; subst hk; exact h.1
  | succ k=>
   have:=uT h.2 k y (by simpa using hk)
   rw [show i+1+k=i+(k+1) by omega] at this
   exact this
theorem uU {d:Nat} {s:aW}:∀ {l:List Nat},DO d s l=true→∀ e∈l,∀ off,lk s e≠.lp d off
 | [],_,e,he,_=>by cases he
 | a :: l,h,e,he,off=>by
  unfold DO at h
  rw [Bool.and_eq_true] at h
  rcases List.mem_cons.1 he with rfl | he
  ·intro hv
   have h1:=h.1
   rw [hv] at h1
   simp only [pV] at h1
   cases h1
  ·exact uU h.2 e he off
theorem nF {cf:List (List Nat)} (hA:xH ops da) (hP:MT ops.size (j8 ops)=true) (hF:AE (j8 ops) 0 (j8 ops) cf=true) (hK:Inv K):∀ (T:DT) (n:Nat) (C:List Nat) (listed:Array Bool) (L:Nat),NC ops C→mu da listed→AG ops L listed →
  (kB (j8 ops) (2 ^ ops.size - 1) da cf T n C L none=true→∀ s,rb E f ops.toList T K s→fx E f ops da C K n listed s) ∧
  (∀ m l,n=m+1→kB (j8 ops) (2 ^ ops.size - 1) da cf T n C L (some l)=true→∀ s,rb E f ops.toList T K s→∀ i∈l,i∈Region.ready .any ops listed→∀ oi,ops[i]?=some oi →
   bU E f ops.toList oi (fun s'=>Fc E f ops da C i s'∧fx E f ops da C K m (listed.setIfInBounds i true) s') s)
 | .done,n,C,listed,L,hC,jd,hM=>by
  refine ⟨fun h s hs=>?_,fun m l _ h=>by simp [kB] at h⟩
  have hL:L=2 ^ ops.size - 1:=Nat.eq_of_beq_eq_true (by simpa only [kB] using h)
  have hr:Region.ready .any ops listed=[]:=by
   apply List.eq_nil_iff_forall_not_mem.2
   intro j hj
   obtain ⟨h1,o,ho,_⟩:=mem_ready.1 hj
   have bT:j < ops.size:=(Array.getElem?_eq_some_iff.1 ho).1
   rw [hM.AH bT,hL,Nat.testBit_two_pow_sub_one] at h1
   simp [bT] at h1
  cases n with
  | zero=>exact ⟨hr,hs⟩
  | succ n=>exact ⟨fun _=>hs,fun i hi=>by rw [hr] at hi; simp at hi⟩
 | .stop,n,C,listed,L,hC,jd,hM=>by
  refine ⟨fun h=>by cases n <;> simp [kB] at h,fun m l e h s _ i hi=>?_⟩
  subst e
  have:l=[]:=by simpa [kB] using h
  rw [this] at hi
  simp at hi
 | .al j W T,0,C,listed,L,hC,jd,hM=>⟨fun h=>by simp [kB] at h,fun m l e=>by cases e⟩
 | .al j W T,n+1,C,listed,L,hC,jd,hM=>by
  refine ⟨fun h s hs=>?_,fun m l _ h=>by simp [kB] at h⟩
  unfold kB at h
  split at h
  ·rename_i x hx
   obtain ⟨oj,hj,rfl⟩:=qx hx
   split at h
   ·cases h
   ·rename_i d hd
    simp only [mz,Bool.and_eq_true] at h
    obtain ⟨⟨⟨⟨⟨Um,E7⟩,hbit⟩,Rh⟩,tY⟩,hT⟩:=h
    have Um:C=[]:=by simpa using Um
    subst Um
    have E7:bJ oj.op=true:=E7
    have hd:oj.dst=some d:=hd
    have uV:j∈Region.ready .any ops listed:=pA hM hj (by simpa using hbit) Rh (ol hP hj)
    obtain ⟨ih,_⟩:=nF hA hP hF hK T n [] (listed.setIfInBounds j true) (L ||| 2 ^ j) (fun k hk=>by cases hk) (jd.add hA uV) (hM.add j)
    unfold rb at hs
    rw [aU,Array.getElem?_toList,hj] at hs
    simp only at hs
    obtain ⟨eY,hs⟩:=hs
    unfold MR at eY
    split at eY
    ·rename_i _ d' hg Ds
     rw [hd] at Ds
     cases Ds
     rw [Bool.and_eq_true] at eY
     have MQ:E.wG f d=false:=by simpa using eY.1
     have I4:bU E f ops.toList oj (fx E f ops da [] K n (listed.setIfInBounds j true)) s:=bV hs fun s' h'=>ih hT s' h'
     unfold bU at I4
     rw [hg] at I4
     obtain ⟨s1,q1,q2⟩:=(DM E7).1 I4
     refine GY hA hK hj hg hd E7 MQ n listed s s1 jd (fun i oi hi cM GW rJ=>?_) uV q1 q2
     have jY:=uT tY i _ (j9 hi)
     rw [Nat.zero_add] at jY
     simp only [Bool.or_eq_true] at jY
     have MU:i < ops.size:=(Array.getElem?_eq_some_iff.1 hi).1
     rcases jY with ((h1 | h1) | h1) | h1
     ·exact absurd (Nat.eq_of_beq_eq_true h1) cM
     ·rw [hM.AH MU,h1] at GW; cases GW
     ·exact absurd (eD.1 h1) rJ
     ·rw [Bool.and_eq_true] at h1
      exact ⟨xK h1.1,fun e he off=>uU eY.2 e (eD.1 (List.all_eq_true.1 h1.2 e he)) off⟩
    ·cases eY
  ·cases h
 | .take j C' T,0,C,listed,L,hC,jd,hM=>⟨fun h=>by simp [kB] at h,fun m l e=>by cases e⟩
 | .take j C' T,n+1,C,listed,L,hC,jd,hM=>by
  refine ⟨fun h s hs=>?_,fun m l _ h=>by simp [kB] at h⟩
  unfold kB at h
  split at h
  ·rename_i x c hx hc
   obtain ⟨oj,hj,rfl⟩:=qx hx
   split at h
   ·cases h
   ·rename_i d hd
    simp only [mz,Bool.and_eq_true] at h
    obtain ⟨⟨⟨⟨⟨⟨⟨hN,Az⟩,Ui⟩,hcf⟩,hbit⟩,Rh⟩,qw⟩,MV,hT⟩:=h
    have hN:ra oj.op=true:=hN
    have hd:oj.dst=some d:=hd
    have uV:j∈Region.ready .any ops listed:=pA hM hj (by simpa using hbit) Rh (ol hP hj)
    have PS:∀ {d:Nat} {l:List Nat},(!jg d l)=true→d∉l:=fun h hm=>by rw [eD.2 hm] at h; cases h
    have MW:d∉oj.looksAt ops:=PS Az
    have Un:∀ k∈C,∀ ok,ops[k]?=some ok→d∉ok.looksAt ops∧ok.dst≠some d:=fun k hk ok eY=>by
     have:=List.all_eq_true.1 Ui k hk
     rw [gq eY] at this
     simp only [Bool.and_eq_true] at this
     refine ⟨PS this.1,fun e=>?_⟩
     have h2:=this.2
     simp only [j7,e,pV] at h2
     cases h2
    have IM:NC ops (j :: C):=fun k hk ok ho=>by
     rcases List.mem_cons.1 hk with rfl | hk
     ·rw [hj] at ho; cases ho; exact hN
     ·exact hC k hk ok ho
    have Uo:=jd.add hA uV
    obtain ⟨ih,_⟩:=nF hA hP hF hK T n C' (listed.setIfInBounds j true) (L ||| 2 ^ j) (xL qw) Uo (hM.add j)
    unfold rb at hs
    rw [aU,Array.getElem?_toList,hj] at hs
    simp only at hs
    have I4:bU E f ops.toList oj (fx E f ops da (j :: C) K n (listed.setIfInBounds j true)) s:=bV hs fun s' h'=>ms n _ _ (sy (hM.add j) MV) (ih hT s' h')
    obtain ⟨x,sO,hk⟩:=uK hN (gI IM hK _ _) I4
    rw [hd] at hk
    refine Cy hA hC hK hj hN hd MW Un n listed s x jd (fun i oi hi cM GW rJ=>?_) uV sO hk
    have tY:=uS hF j _ c (j9 hj) (by rw [← aU]; exact hc) hN
    have jY:=uR tY i _ (j9 hi)
    rw [Nat.zero_add,Nat.zero_add] at jY
    simp only [Bool.or_eq_true] at jY
    have MU:i < ops.size:=(Array.getElem?_eq_some_iff.1 hi).1
    rcases jY with ((h1 | h1) | h1) | h1
    ·exact absurd (Nat.eq_of_beq_eq_true h1) cM
    ·obtain ⟨e,q1,q2,q3⟩:=iq.1 (eD.1 h1)
     exact absurd q3 (rJ e (by simpa using q1) q2)
    ·have:=List.all_eq_true.1 hcf i (eD.1 h1)
     rw [hM.AH MU,this] at GW
     cases GW
    ·exact xK h1
  ·cases h
 | .br i re C' T more,0,C,listed,L,hC,jd,hM=>⟨fun h=>by simp [kB] at h,fun m l e=>by cases e⟩
 | .br i re C' T more,n+1,C,listed,L,hC,jd,hM=>by
  have main:∀ left l,(match left with | none=>my L 0 (j8 ops) | some l=>l)=l→kB (j8 ops) (2 ^ ops.size - 1) da cf (.br i re C' T more) (n+1) C L left=true→∀ s,rb E f ops.toList (.br i re C' T more) K s→i∈l∧∀ k∈l,k∈Region.ready .any ops listed→∀ ok,ops[k]?=some ok →
    bU E f ops.toList ok (fun s'=>Fc E f ops da C k s'∧fx E f ops da C K n (listed.setIfInBounds k true) s') s:=by
   intro left l hl h s hs
   unfold kB at h
   split at h
   ·cases h
   ·rename_i y hy
    obtain ⟨oi,qv,rfl⟩:=qx hy
    have h:(K8 (j8 ops) da C re i (j7 ops oi)&&DR (j8 ops) C'&&jg i l&&(tq (j8 ops) da (L ||| 2 ^ i) C C'&&kB (j8 ops) (2 ^ ops.size - 1) da cf T n C' (L ||| 2 ^ i) none) &&
     kB (j8 ops) (2 ^ ops.size - 1) da cf more (n+1) C L (some (l.filter fun k=>!Nat.beq k i)))=true:=by
     cases left with
     | none=>simp only at hl; subst hl; simp only [uQ,mz] at h; exact h
     | some l'=>simp only at hl; subst hl; simp only [mz] at h; exact h
    simp only [Bool.and_eq_true] at h
    obtain ⟨⟨⟨⟨QR,qw⟩,fD⟩,MV,hT⟩,hmore⟩:=h
    unfold rb at hs
    refine ⟨eD.1 fD,fun k hk S7 ok eY=>?_⟩
    by_cases e:k=i
    ·subst e
     rw [qv] at eY
     cases eY
     obtain ⟨ih,_⟩:=nF hA hP hF hK T n C' (listed.setIfInBounds k true) (L ||| 2 ^ k) (xL qw) (jd.add hA S7) (hM.add k)
     have h1:=hs.1
     rw [aU,Array.getElem?_toList,qv] at h1
     refine bV h1 fun s' h'=>⟨fun c hc oc K7 q1 q2 q3 q4=>?_,ms n _ _ (sy (hM.add k) MV) (ih hT s' h'.2)⟩
     rw [qv] at q2
     cases q2
     have Bx:=List.all_eq_true.1 QR c hc
     rw [gq q1] at Bx
     have Yp:og (j7 ops oc) (j7 ops oi)=true:=q3
     simp only [Yp,Bool.not_true,Bool.false_or,Bool.or_eq_true] at Bx
     rcases Bx with Bx | Bx
     ·have hm:c∈re:=eD.1 Bx
      have:∀ (re:List Nat),c∈re→xJ E f ops.toList re s'→Cs E f ops.toList oc s':=by
       intro re
       induction re with
       | nil=>intro hm; simp at hm
       | cons a re ihr=>
        intro hm ha
        rcases List.mem_cons.1 hm with rfl | hm
        ·have:=ha.1
         rw [aU,Array.getElem?_toList,q1] at this
         exact this
        ·exact ihr hm ha.2
      exact this re hm h'.1
     ·exact absurd (eD.1 Bx) q4
    ·obtain ⟨_,ih⟩:=nF hA hP hF hK more (n+1) C listed L hC jd hM
     refine ih n _ rfl hmore s hs.2 k ?_ S7 ok eY
     rw [List.mem_filter]
     exact ⟨hk,by rw [ma e]; rfl⟩
  refine ⟨fun h s hs=>?_,fun m l e h s hs k hk S7 ok eY=>?_⟩
  ·obtain ⟨m1,m2⟩:=main none _ rfl h s hs
   have back:∀ k,k∈my L 0 (j8 ops)→k∈Region.ready .any ops listed:=fun k hk=>by
    obtain ⟨j,x,q1,q2,q3,q4⟩:=nD.1 hk
    rw [Nat.zero_add] at q1
    subst q1
    rw [← aU] at q2
    obtain ⟨o,ho,rfl⟩:=qx q2
    exact pA hM ho q3 q4 (ol hP ho)
   have Ri:∀ k,k∈Region.ready .any ops listed→k∈my L 0 (j8 ops):=fun k hk=>by
    obtain ⟨h1,o,ho,qw⟩:=mem_ready.1 hk
    have bT:k < ops.size:=(Array.getElem?_eq_some_iff.1 ho).1
    refine nD.2 ⟨k,j7 ops o,by omega,j9 ho,by rw [← hM.AH bT]; exact h1,List.all_eq_true.2 fun e he=>?_⟩
    obtain ⟨ed,q1,q2,rfl⟩:=iq.1 he
    have h2:=qw ed (by simpa using q1) q2
    rw [hM.AH (ol hP ho ed (by simpa using q1) q2)] at h2
    exact h2
   refine ⟨fun h0=>?_,fun k hk ok eY=>m2 k (Ri k hk) hk ok eY⟩
   have:=back i m1
   rw [h0] at this
   simp at this
  ·cases e
   exact (main (some l) l rfl h s hs).2 k hk S7 ok eY
theorem uW {R:ak} {w:World} {β:Nat→Nat} {F:Fence} {Qc:Exit→Act→World→Prop} {C:List Nat} (hQ:∀ a' w',nz E R w β s K a' w'→Qc .normal a' w') :
  ∀ (n:Nat) (listed:Array Bool) (R1:ak) (w1:World) (β1:Nat→Nat) (s1:St) (a1:Act),aY E R1 w1 β1 s1 a1→Step R w β s.boxes R1 w1 β1 s1.boxes→s1.ro=s.ro→bw R1 s1.ro F →
   fx E f ops da C K n listed s1→wpAnyIn F 0 E.P .any ops Qc n listed a1 w1
 | 0,listed,R1,w1,β1,s1,a1,hr,jI,bI,_,ha=>⟨ha.1,hQ _ _ ⟨s1,R1,β1,ha.2,hr,jI,bI⟩⟩
 | n+1,listed,R1,w1,β1,s1,a1,hr,jI,bI,hf,ha=>by
  refine ⟨fun h0=>hQ _ _ ⟨s1,R1,β1,ha.1 h0,hr,jI,bI⟩,fun i hi=>?_⟩
  obtain ⟨_,o,ho,_⟩:=mem_ready.1 hi
  unfold wpOpIn
  simp only [ho]
  refine qo hr hf (ha.2 i hi o ho) _ ?_
  rintro a' w' ⟨s',R',β',q1,q2,q3,q4⟩
  exact uW hQ n _ R' w' β' s' a' q2 (jI.trans q3) (q4.trans bI) (by rw [q4]; exact hf.mono q3.ext) q1.2
theorem fg {K':St→Prop} (hK:∀ s,K s→K' s):∀ (T:DT) (s:St),rb E f ops.toList T K s→rb E f ops.toList T K' s
 | .done,s,h=>hK s h
 | .stop,_,_=>trivial
 | .take j C T,s,h=>by
  unfold rb at h ⊢
  split
  ·rename_i oj hj
   rw [hj] at h
   exact bV h fun s' h'=>fg hK T s' h'
  ·rename_i hj
   rw [hj] at h
   exact h
 | .al j W T,s,h=>by
  unfold rb at h ⊢
  split
  ·rename_i oj hj
   rw [hj] at h
   exact ⟨h.1,bV h.2 fun s' h'=>fg hK T s' h'⟩
  ·rename_i hj
   rw [hj] at h
   exact h
 | .br i re C T more,s,h=>by
  unfold rb at h ⊢
  refine ⟨?_,fg hK more s h.2⟩
  have h:=h.1
  split
  ·rename_i oj hj
   rw [hj] at h
   exact bV h fun s' h'=>⟨h'.1,fg hK T s' h'.2⟩
  ·rename_i hj
   rw [hj] at h
   exact h
structure ax where
 da:List (List Nat)
 cf:List (List Nat)
 T:DT
def CA (ops:Array Oper) (p:ax):Bool:=DP (ops.toList.map (j7 ops)) fun I=>
 yQ ops.size fun n=>yQ (2 ^ n - 1) fun N=>uP (GZ p.da) 0 I&&MT n I&&AE I 0 I p.cf&&kB I N (GZ p.da) p.cf p.T n [] 0 none
theorem aY.drawn {R:ak} {w:World} {β:Nat→Nat} {a:Act} (h:aY E R w β s a):aY E R { w with drawn:=w.drawn+1 } β s a∧Step R w β s.boxes R { w with drawn:=w.drawn+1 } β s.boxes:=by
 have e:Ext R w R { w with drawn:=w.drawn+1 }:=⟨fun _ _ h=>h,fun _ _ _=>rfl,fun _ ro h=>⟨ro,h,cp.refl ro⟩,gb.refl w⟩
 refine ⟨⟨⟨h.g.len,fun id go ro h1 h2=>(h.g.obj id go ro h1 h2).mono e (fun _ _=>rfl) (fun _ _ _ h=>h),h.g.inj,h.g.wf,fun g cs hg=>(h.g.dK g cs hg).mono e,Nat.le_succ_of_le h.g.lo⟩,?_,h.t.mono e,h.n,h.d⟩,?_⟩
 ·exact h.b.aZ e (fun _ _ _=>rfl) (fun _ _ _ _ h=>h) (fun _ _ _ h=>h)
 ·exact ⟨e,rfl,rfl,rfl,Nat.le_refl _,fun _ _ _=>rfl,fun _ _ h=>h,fun _ _ h _ _=>h⟩
theorem eV.draw {id:Nat} {p:ax} {Q:Exit→St→Prop} (eY:CA ops p=true) (h:rb E f ops.toList p.T (Q .normal) s):eV E (.region id ops true) Q s:=fun R w β a F hr hf=>by
 simp only [CA,AF,mz,Bool.and_eq_true] at eY
 obtain ⟨⟨⟨hA,hP⟩,hF⟩,hT⟩:=eY
 refine wpIn_region_any E.mixed ?_
 obtain ⟨q1,q2⟩:=hr.drawn
 have hK:Inv (fun s=>∃ u,ob u s∧Q .normal u):=fun s t e ⟨u,h1,h2⟩=>⟨u,h1.trans e,h2⟩
 have h':=fg (K':=fun s=>∃ u,ob u s∧Q .normal u) (fun s h=>⟨s,ob.refl s,h⟩) p.T s h
 have jd:mu (GZ p.da) (Array.replicate ops.size false):=fun i hi=>by
  rw [Array.getD_eq_getD_getElem?,Array.getElem?_replicate] at hi
  split at hi <;> cases hi
 have MX:=(nF (E:=E) (f:=f) (Cz hA) hP hF hK p.T ops.size [] (Array.replicate ops.size false) 0 (fun k hk=>by simp at hk) jd ⟨by simp,fun i hi=>by simp [hi]⟩).1 hT s h'
 refine uW (R:=R) (w:=w) (β:=β) (s:=s) (f:=f) (K:=fun s=>∃ u,ob u s∧Q .normal u) ?_ _ _ R _ β s a q1 q2 rfl hf MX
 rintro a' w' ⟨s',R',β',⟨u,e,hu⟩,h2,h3,h4⟩
 exact ⟨u,R',β',hu,h2.eqv e.symm,h3.eqv rfl e.symm.b,e.ro.trans h4⟩
end
end Go.Am
