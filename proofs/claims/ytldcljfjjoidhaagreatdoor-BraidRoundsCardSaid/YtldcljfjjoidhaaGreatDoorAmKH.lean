/- The abstract machine: regions whose order the tape draws,along a tree of choices that was checked. -/
import Derived.Test.YtldcljfjjoidhaaGreatDoorAmKG
set_option linter.all false
namespace Go.Am
open Go
section
variable {E:Env} {s t:St} {f:FuncId} {ops:Array Oper} {o oj oi:Oper} {d:Tmp} {x:SV} {K K':St→Prop} {du:Nat→List Nat} {C:List Nat}
def HQ (E:Env) (f:FuncId) (ops:Array Oper) (du:Nat→List Nat) (C:List Nat) (i:Nat) (s:St):Prop:=
 ∀ j∈C,∀ oj oi,ops[j]?=some oj→ops[i]?=some oi→jo oj oi=true→j∉du i→EJ E f ops.toList oj s
def NC (ops:Array Oper) (C:List Nat):Prop:=∀ j∈C,∀ oj,ops[j]?=some oj→sG oj.op=true
theorem px {i:Nat} (hC:NC ops C):Inv (HQ E f ops du C i):=fun _ _ e h j hj oj oi h1 h2 h3 h4=>NI (hC j hj oj h1) e (h j hj oj oi h1 h2 h3 h4)
def fx (E:Env) (f:FuncId) (ops:Array Oper) (du:Nat→List Nat) (C:List Nat) (K:St→Prop):Nat→Array Bool→St→Prop
 | 0,listed,s=>Region.ready .any ops listed=[]∧K s
 | n+1,listed,s=>(Region.ready .any ops listed=[]→K s) ∧
   ∀ i∈Region.ready .any ops listed,∀ oi,ops[i]?=some oi→ck E f ops.toList oi (fun s'=>HQ E f ops du C i s'∧fx E f ops du C K n (listed.setIfInBounds i true) s') s
theorem ic (hC:NC ops C) (hK:Inv K):∀ n listed,Inv (fx E f ops du C K n listed)
 | 0,_=>fun s t e h=>⟨h.1,hK s t e h.2⟩
 | n+1,_=>fun s t e h=>⟨fun h0=>hK s t e (h.1 h0),fun i hi oi rW=>Cw (fun s t e h=>⟨px hC s t e h.1,ic hC hK n _ s t e h.2⟩) s t e (h.2 i hi oi rW)⟩
theorem nb {C':List Nat}:∀ n (listed:Array Bool) (s:St),
  (∀ k∈C',k∈C∨∀ i ok oi,ops[k]?=some ok→ops[i]?=some oi→listed.getD i true=false→jo ok oi=true→k∈du i) →
  fx E f ops du C K n listed s→fx E f ops du C' K n listed s
 | 0,_,_,_,h=>h
 | n+1,listed,s,hk,h=>⟨h.1,fun i hi oi rW=>cm (h.2 i hi oi rW) fun s' h'=>⟨fun k TF ok RZ h1 h2 h3 h4=>by
   rcases hk k TF with h5 | h5
   ·exact h'.1 k h5 ok RZ h1 h2 h3 h4
   ·exact absurd (h5 i ok RZ h1 h2 (mem_ready.1 hi).1 h3) h4,nb n _ s' (fun k TF=>by
   rcases hk k TF with h5 | h5
   ·exact .inl h5
   ·refine .inr fun i' ok RZ h1 h2 h3 h4=>h5 i' ok RZ h1 h2 ?_ h4
    by_cases e:i=i'
    ·subst e; exact (mem_ready.1 hi).1
    ·rw [getD_set_ne true e] at h3; exact h3) h'.2⟩⟩
def zC (ops:Array Oper) (du:Nat→List Nat):Prop:=∀ i oi a,ops[i]?=some oi→a∈du i→∃ e∈oi.after,Region.binds .any e=true∧(e.on=a∨a∈du e.on)
def nf (du:Nat→List Nat) (listed:Array Bool):Prop:=∀ i,listed.getD i false=true→∀ a∈du i,listed.getD a false=true
theorem nf.ready {listed:Array Bool} (h:nf du listed) (ha:zC ops du) {i:Nat} (hi:i∈Region.ready .any ops listed):∀ a∈du i,listed.getD a false=true:=fun a haa=>by
 obtain ⟨_,o,ho,nR⟩:=mem_ready.1 hi
 obtain ⟨e,he,hb,h2⟩:=ha i o a ho haa
 rcases h2 with rfl | h2
 ·exact nR e he hb
 ·exact h _ (nR e he hb) a h2
theorem jE {listed:Array Bool} {i:Nat} (h:listed.getD i false=true):listed.getD i true=true:=by
 rw [Array.getD_eq_getD_getElem?] at *
 cases hl:listed[i]? with
 | none=>rw [hl] at h; cases h
 | some b=>rw [hl] at h; exact h
theorem nf.add {listed:Array Bool} (h:nf du listed) (ha:zC ops du) {i:Nat} (hi:i∈Region.ready .any ops listed):nf du (listed.setIfInBounds i true):=fun k hk a haa=>by
 by_cases e:i=k
 ·subst e
  exact getD_set_true (h.ready ha hi a haa)
 ·rw [getD_set_ne false e] at hk
  exact getD_set_true (h k hk a haa)
theorem EQ (hA:zC ops du) (hC:NC ops C) (hK:Inv K) {j:Nat} (hj:ops[j]?=some oj) (hN:sG oj.op=true) (Gf:oj.dst=some d) (Cy:d∉oj.looksAt ops)
  (hCd:∀ k∈C,∀ ok,ops[k]?=some ok→d∉ok.looksAt ops∧ok.dst≠some d):∀ n (listed:Array Bool) (s:St) (x:SV),nf du listed →
   (∀ i oi,ops[i]?=some oi→i≠j→listed.getD i true=false→(∀ e∈oi.after,Region.binds .any e=true→e.on≠j)→oj.apart ops oi=true) →
   j∈Region.ready .any ops listed→wo E f ops oj s x→fx E f ops du (j :: C) K n (listed.setIfInBounds j true) (s.put (some d) x)→fx E f ops du C K (n+1) listed s:=by
 have Nb:NC ops (j :: C):=fun k hk ok ho=>by
  rcases List.mem_cons.1 hk with rfl | hk
  ·rw [hj] at ho; cases ho; exact hN
  ·exact hC k hk ok ho
 have self:∀ n (listed:Array Bool) (s:St) (x:SV),wo E f ops oj s x→fx E f ops du (j :: C) K n (listed.setIfInBounds j true) (s.put (some d) x)→∀ oi,ops[j]?=some oi →
   ck E f ops.toList oi (fun s'=>HQ E f ops du C j s'∧fx E f ops du C K n (listed.setIfInBounds j true) s') s:=fun n listed s x hx h oi rW=>by
  rw [hj] at rW
  cases rW
  refine wv hN (fun s t e h=>⟨px hC s t e h.1,ic hC hK _ _ s t e h.2⟩) hx ?_
  rw [Gf]
  refine ⟨fun k _ ok RZ _ h2 h3 _=>?_,nb n _ _ (fun k hk=>.inl (List.mem_cons_of_mem _ hk)) h⟩
  rw [hj] at h2
  cases h2
  simp [jo,Cu hN,hN] at h3
 intro n
 induction n with
 | zero=>
  intro listed s x _ _ hr hx h
  refine ⟨fun h0=>by rw [h0] at hr; simp at hr,fun i hi oi rW=>?_⟩
  by_cases e:i=j
  ·subst e; exact self 0 listed s x hx h oi rW
  ·have:=ready_mono hi e
   rw [h.1] at this
   simp at this
 | succ n ih=>
  intro listed s x je jm hr hx h
  refine ⟨fun h0=>by rw [h0] at hr; simp at hr,fun i hi oi rW=>?_⟩
  by_cases e:i=j
  ·subst e; exact self (n+1) listed s x hx h oi rW
  ·have JO:=(mem_ready.1 hi).1
   have NM:=(mem_ready.1 hr).1
   have Te:∀ ed∈oi.after,Region.binds .any ed=true→ed.on≠j:=fun ed he hb jL=>by
    obtain ⟨_,o,ho,nR⟩:=mem_ready.1 hi
    rw [rW] at ho
    cases ho
    have h1:=jE (nR ed he hb)
    rw [jL,NM] at h1
    cases h1
   have WU:=jm i oi rW e JO Te
   have hG:=h.2 i (ready_mono hi e) oi rW
   have JP:j∉du i:=fun hm=>by
    have h1:=jE (je.ready hA hi j hm)
    rw [NM] at h1
    cases h1
   have hKi:Inv (fun s'=>HQ E f ops du (j :: C) i s'∧fx E f ops du (j :: C) K n ((listed.setIfInBounds j true).setIfInBounds i true) s'):=
    fun s t e h=>⟨px Nb s t e h.1,ic Nb hK _ _ s t e h.2⟩
   have TG:∀ k ok,ops[k]?=some ok→k≠j→(listed.setIfInBounds i true).getD k true=false→(∀ e∈ok.after,Region.binds .any e=true→e.on≠j)→oj.apart ops ok=true:=fun k ok hk hkj X9 sZ=>by
    refine jm k ok hk hkj ?_ sZ
    by_cases e':i=k
    ·subst e'; exact JO
    ·rw [getD_set_ne true e'] at X9; exact X9
   have core:∀ {pre:bj} {preB:cJ} {G:List GO},WS (bU oi.op) oi.dst pre→(sG oi.op=true→preB=[]∧G=s.G) →
     (HQ E f ops du (j :: C) i ((s.put (some d) x).fe pre preB G)∧fx E f ops du (j :: C) K n ((listed.setIfInBounds j true).setIfInBounds i true) ((s.put (some d) x).fe pre preB G)) →
     HQ E f ops du C i (s.fe pre preB G)∧fx E f ops du C K (n+1) (listed.setIfInBounds i true) (s.fe pre preB G):=by
    intro pre preB G yL X8 hk
    obtain ⟨x',rA,iR⟩:=HK hN Gf Cy WU hKi hx yL X8 hk (fun t' CA hd=>CA.1 j (List.mem_cons_self ..) oj oi hj rW hd JP)
    refine ⟨fun k TF ok RZ h1 h2 h3 h4=>?_,?_⟩
    ·obtain ⟨q1,q2⟩:=hCd k TF ok h1
     obtain ⟨b1,b2,b3,_⟩:=fN (s.fe pre preB G) (some d) x'
     exact NH (hC k TF ok h1) q1 q2 (fun e he=>uY _ _ _ he) (by rw [b1]) b2 b3 (iR.1 k (List.mem_cons_of_mem _ TF) ok RZ h1 h2 h3 h4)
    ·refine ih (listed.setIfInBounds i true) _ x' (je.add hA hi) TG (ready_mono hr (Ne.symm e)) rA ?_
     rw [Array.setIfInBounds_comm _ _ e]
     exact iR.2
   rw [fM (fun s t e h=>⟨px hC s t e h.1,ic hC hK _ _ s t e h.2⟩)]
   obtain ⟨DM,_,_⟩:=Oper.apart_spec WU
   have tO:∀ e∈oi.looksAt ops,lk (s.put (some d) x).ah e=lk s.ah e:=fun e he=>uY s d x fun k=>DM d Gf (k ▸ he)
   obtain ⟨b1,b2,b3,b4,b5⟩:=fN s (some d) x
   rcases (fM hKi).1 hG with ⟨h1,h2⟩ | ⟨h1,h2⟩
   ·refine .inl ⟨by rw [← j7 tO]; exact h1,ta b3 b2 (by rw [b1]) (kn tO) h2 fun pre preB G hp X8 hk=>core hp (fun hh=>?_) hk⟩
    obtain ⟨q1,q2⟩:=X8 hh
    exact ⟨q1,by rw [q2,b2]⟩
   ·refine .inr ⟨by rw [← j7 tO]; exact h1,?_⟩
    obtain ⟨pre,preB,G,p1,p2,p3,p4⟩:=bQ.put (s:=s.put (some d) x) (t:=s) (al:=bU oi.op) (w:=false) b3 b2 oi.dst (.v fE)
    obtain ⟨q1,q2,_⟩:=p2 rfl
    rw [p3] at h2
    rw [p4]
    exact core p1 (fun _=>⟨q1,by rw [q2,b2]⟩) h2
theorem Gi {i:Nat} {s:St}:HQ E f ops du [] i s:=fun j hj=>by cases hj
theorem TH {y:Operand} {k off:Nat} (h:bI E s.ah y=.lp k off):∃ e,y=.tmp e∧lk s.ah e=.lp k off:=by
 cases y with
 | tmp e=>exact ⟨e,rfl,h⟩
 | const v=>simp only [bI] at h; split at h <;> cases h
 | global g=>simp only [bI] at h; split at h <;> cases h
 | func g=>cases h
theorem JQ (hA:zC ops du) (hK:Inv K) {j:Nat} (hj:ops[j]?=some oj) (hg:oj.guard=none) (Gf:oj.dst=some d) (yM:bU oj.op=true) (TJ:E.yy f d=false):∀ n (listed:Array Bool) (s s1:St),nf du listed →
  (∀ i oi,ops[i]?=some oi→i≠j→listed.getD i true=false→j∉du i→oj.apart ops oi=true∧∀ e∈oi.looksAt ops,∀ off,lk s.ah e≠.lp d off) →
  j∈Region.ready .any ops listed→au E f s oj=some (true,s1)→fx E f ops du [] K n (listed.setIfInBounds j true) s1→fx E f ops du [] K (n+1) listed s:=by
 have Nb:NC ops []:=fun k hk=>by cases hk
 have self:∀ n (listed:Array Bool) (s s1:St),au E f s oj=some (true,s1)→fx E f ops du [] K n (listed.setIfInBounds j true) s1→∀ oi,ops[j]?=some oi →
   ck E f ops.toList oi (fun s'=>HQ E f ops du [] j s'∧fx E f ops du [] K n (listed.setIfInBounds j true) s') s:=fun n listed s s1 hx h oi rW=>by
  rw [hj] at rW
  cases rW
  unfold ck
  rw [hg]
  exact (Gh yM).2 ⟨s1,hx,Gi,h⟩
 intro n
 induction n with
 | zero=>
  intro listed s s1 _ _ hr hx h
  refine ⟨fun h0=>by rw [h0] at hr; simp at hr,fun i hi oi rW=>?_⟩
  by_cases e:i=j
  ·subst e; exact self 0 listed s s1 hx h oi rW
  ·have:=ready_mono hi e
   rw [h.1] at this
   simp at this
 | succ n ih=>
  intro listed s s1 je jm hr hx h
  refine ⟨fun h0=>by rw [h0] at hr; simp at hr,fun i hi oi rW=>?_⟩
  by_cases e:i=j
  ·subst e; exact self (n+1) listed s s1 hx h oi rW
  ·have JO:=(mem_ready.1 hi).1
   have NM:=(mem_ready.1 hr).1
   have JP:j∉du i:=fun hm=>by
    have h1:=jE (je.ready hA hi j hm)
    rw [NM] at h1
    cases h1
   obtain ⟨WU,sZ⟩:=jm i oi rW e JO JP
   obtain ⟨DM,cP,B9⟩:=Oper.apart_spec WU
   have JM:oi.dst≠some d:=cP d Gf
   obtain ⟨_,cs,rfl,F7⟩:=EO yM Gf TJ hx
   have hG:=h.2 i (ready_mono hi e) oi rW
   have hKi:Inv (fun s'=>HQ E f ops du [] i s'∧fx E f ops du [] K n ((listed.setIfInBounds j true).setIfInBounds i true) s'):=
    fun s t e h=>⟨px Nb s t e h.1,ic Nb hK _ _ s t e h.2⟩
   have HP:∀ y∈oi.op.operands,∀ off,bI E s.ah y≠.lp d off:=fun y hy off hv=>by
    obtain ⟨e',rfl,hv⟩:=TH hv
    exact sZ e' (na hy) off hv
   have core:∀ {pre:bj} {preB:cJ} {G:List GO},iB E s oi (s.fe pre preB G) →
     (HQ E f ops du [] i ((qF s d cs).fe pre preB G)∧fx E f ops du [] K n ((listed.setIfInBounds j true).setIfInBounds i true) ((qF s d cs).fe pre preB G)) →
     HQ E f ops du [] i (s.fe pre preB G)∧fx E f ops du [] K (n+1) (listed.setIfInBounds i true) (s.fe pre preB G):=by
    intro pre preB G NL hk
    refine ⟨Gi,?_⟩
    obtain ⟨o1,o2⟩:=Gg NL
    have tO:∀ e' off,oi.dst≠some e'∨lk (s.fe pre preB G).ah e'=.lp d off→lk (s.fe pre preB G).ah e'=.lp d off→lk s.ah e'=.lp d off:=by
     intro e' off _ hv
     have hv:lk (pre++s.ah) e'=.lp d off:=hv
     rcases o1 with rfl | ⟨d',x,FV,hp,Ya⟩
     ·exact hv
     ·have rA:∀ off,x≠.lp d off:=fun off c=>by
       rcases Ya d off c with ⟨y,hy,fF,ho⟩ | ⟨_,h⟩
       ·exact HP y hy fF ho
       ·exact JM (by rw [FV,h])
      by_cases c2:d'=e'
      ·subst c2
       rcases hp with rfl | rfl
       ·simp only [List.cons_append,List.nil_append,aD] at hv; exact absurd hv (rA off)
       ·simp only [List.cons_append,List.nil_append,aD] at hv; exact absurd hv (rA off)
      ·rcases hp with rfl | rfl
       ·simp only [List.cons_append,List.nil_append] at hv; rwa [aR c2] at hv
       ·simp only [List.cons_append,List.nil_append] at hv
        rw [aR c2,jq] at hv
        cases hl:lk s.ah e' with
        | lp k fF=>
         rw [hl] at hv
         simp only at hv
         cases hb:Nat.beq k d' with
         | true=>rw [hb] at hv; cases hv
         | false=>rw [hb] at hv; exact hv
        | v a=>rw [hl] at hv; cases hv
        | none=>rw [hl] at hv; cases hv
    refine ih (listed.setIfInBounds i true) _ _ (je.add hA hi) ?_ (ready_mono hr (Ne.symm e)) (F7 (s.fe pre preB G) rfl ?_) ?_
    ·intro k ok iR hkj X9 abC
     have abD:listed.getD k true=false:=by
      by_cases e':i=k
      ·subst e'; exact JO
      ·rw [getD_set_ne true e'] at X9; exact X9
     obtain ⟨q1,q2⟩:=jm k ok iR hkj abD abC
     exact ⟨q1,fun e' he' off hv=>q2 e' he' off (tO e' off (.inr hv) hv)⟩
    ·intro y hy v hv
     cases y with
     | tmp e'=>
      have FV:oi.dst≠some e':=fun c=>B9 e' c (na hy)
      have hv:lk s.ah e'=.v v:=hv
      show lk (pre++s.ah) e'=.v v
      rcases o1 with rfl | ⟨d',x,X1,hp,_⟩
      ·exact hv
      ·have c2:d'≠e':=fun c=>FV (by rw [X1,c])
       rcases hp with rfl | rfl
       ·simp only [List.cons_append,List.nil_append]; rw [aR c2]; exact hv
       ·simp only [List.cons_append,List.nil_append]
        rw [aR c2,wy (fun off=>by rw [hv]; intro c; cases c)]; exact hv
     | const _=>exact hv
     | global _=>exact hv
     | func _=>exact hv
    ·rw [Array.setIfInBounds_comm _ _ e]
     exact ic Nb hK _ _ _ _ (HO cs NL JM HP) hk.2
   have AQ:∀ e'∈oi.looksAt ops,lk (qF s d cs).ah e'=lk s.ah e':=fun e' he'=>by
    have c1:d≠e':=fun c=>DM d Gf (c ▸ he')
    show lk (.put d (.lp d 0) :: .kill d :: s.ah) e'=_
    rw [aR c1,wy (sZ e' he')]
   have Eg:∀ k off,(∃ y∈oi.op.operands,bI E (qF s d cs).ah y=.lp k off)→dv (qF s d cs).boxes k=dv s.boxes k:=by
    rintro k off ⟨y,hy,hv⟩
    rw [kn AQ y hy] at hv
    have M1:d≠k:=fun c=>HP y hy off (by rw [c]; exact hv)
    show dv ((d,cs) :: s.boxes) k=dv s.boxes k
    simp only [dv]
    cases hb:Nat.beq d k with
    | true=>exact absurd (Nat.eq_of_beq_eq_true hb) M1
    | false=>rfl
   rw [fM (fun s t e h=>⟨px Nb s t e h.1,ic Nb hK _ _ s t e h.2⟩)]
   rcases (fM hKi).1 hG with ⟨h1,h2⟩ | ⟨h1,h2⟩
   ·exact .inl ⟨by rw [← j7 AQ]; exact h1,EP (s:=qF s d cs) (t:=s) rfl rfl Eg (kn AQ) h2 fun pre preB G hO hk=>core hO hk⟩
   ·refine .inr ⟨by rw [← j7 AQ]; exact h1,?_⟩
    obtain ⟨pre,preB,G,p1,p2,p3,p4⟩:=bQ.put (s:=qF s d cs) (t:=s) (al:=bU oi.op) (w:=false) rfl rfl oi.dst (.v fE)
    rw [p3] at h2
    have hO:iB E s oi (s.put oi.dst (.v fE)):=ko rfl rfl _
    rw [p4] at hO ⊢
    exact core hO h2
end
inductive DT where
 | done
 | take (j:Nat) (C:List Nat) (t:DT)
 | br (i:Nat) (re C:List Nat) (t:DT) (more:DT)
 | stop
 | al (j:Nat) (W:List Nat) (t:DT)
structure ng where
 dst:Option Tmp
 lo:List Tmp
 pr:List Nat
 n:Bool
 r:Bool
 a:Bool
def Gj (d:Nat) (s:bj):List Nat→Bool
 | []=>true
 | e :: l=>(match lk s e with
  | .lp k _=>!Nat.beq k d
  | _=>true)&&Gj d s l
def TL (E:Env) (f:FuncId) (o:Oper) (W:List Nat) (s:St):Bool:=match o.guard,o.dst with
 | none,some d=>!E.yy f d&&Gj d s.ah W
 | _,_=>false
def jF (x:Nat):List Nat→Bool
 | []=>false
 | y :: l=>Nat.beq x y || jF x l
def py:List Edge→List Nat
 | []=>[]
 | e :: l=>bif Region.binds .any e then e.on :: py l else py l
def kq (ops:Array Oper) (o:Oper):ng:=⟨o.dst,o.looksAt ops,py o.after.toList,sG o.op,TE o.op,bU o.op⟩
def AR {α:Type} (n:Nat) (K:Nat→α):α:=match n with
 | 0=>K 0
 | m+1=>K (Nat.succ m)
def zD {α:Type}:List Nat→(List Nat→α)→α
 | [],K=>K []
 | a :: l,K=>AR a fun a=>zD l fun l=>K (a :: l)
def TM {α:Type} (i:ng) (K:ng→α):α:=match i with
 | ⟨d,lo,pr,n,r,a⟩=>zD lo fun lo=>zD pr fun pr=>(match d with
  | none=>(fun (K:Option Tmp→α)=>K none)
  | some d=>(fun (K:Option Tmp→α)=>AR d fun d=>K (some d))) fun d=>(bif n then (fun (K:Bool→α)=>K true) else fun K=>K false) fun n=>
   (bif r then (fun (K:Bool→α)=>K true) else fun K=>K false) fun r=>(bif a then (fun (K:Bool→α)=>K true) else fun K=>K false) fun a=>K ⟨d,lo,pr,n,r,a⟩
def Gk {α:Type}:List ng→(List ng→α)→α
 | [],K=>K []
 | i :: l,K=>TM i fun i=>Gk l fun l=>K (i :: l)
def td (x y:ng):Bool:=
 (match x.dst with
 | some d=>!jF d y.lo&&(match y.dst with | some e=>!Nat.beq e d | none=>true)
 | none=>true) &&
 (match y.dst with
 | some d=>!jF d x.lo
 | none=>true)
def CB (j:Nat) (x:ng) (cf:List Nat):Nat→List ng→Bool
 | _,[]=>true
 | i,y :: l=>(Nat.beq i j || jF j y.pr || jF i cf || td x y)&&CB j x cf (i+1) l
def CC (I:List ng):Nat→List ng→List (List Nat)→Bool
 | _,[],_=>true
 | j,x :: l,c :: cs=>(!x.n || CB j x c 0 I)&&CC I (j+1) l cs
 | _,_,_=>false
def wz (du:Nat→List Nat):Nat→List ng→Bool
 | _,[]=>true
 | i,x :: l=>(du i).all (fun a=>x.pr.any fun e=>Nat.beq e a || jF a (du e))&&wz du (i+1) l
def nh (L:Nat):Nat→List ng→List Nat
 | _,[]=>[]
 | i,x :: l=>bif !L.testBit i&&x.pr.all (fun e=>L.testBit e) then i :: nh L (i+1) l else nh L (i+1) l
def pz (x y:ng):Bool:=y.a || (x.r&&!y.n)
def pA (du:Nat→List Nat) (L k:Nat) (x:ng):Nat→List ng→Bool
 | _,[]=>true
 | i,y :: l=>(L.testBit i || !pz x y || jF k (du i))&&pA du L k x (i+1) l
def uZ (I:List ng) (du:Nat→List Nat) (L:Nat) (C C':List Nat):Bool:=C.all fun k=>jF k C' || match nth I k with
 | none=>false
 | some x=>pA du L k x 0 I
def R4 (I:List ng) (du:Nat→List Nat) (C re:List Nat) (i:Nat) (y:ng):Bool:=C.all fun k=>jF k re || match nth I k with
 | none=>false
 | some x=>!pz x y || jF k (du i)
def Gl (du:Nat→List Nat) (L:Nat) (W:List Nat) (j:Nat) (x:ng):Nat→List ng→Bool
 | _,[]=>true
 | i,y :: l=>(Nat.beq i j || L.testBit i || jF j (du i) || (td x y&&y.lo.all fun e=>jF e W))&&Gl du L W j x (i+1) l
def Gm (I:List ng) (C:List Nat):Bool:=C.all fun k=>match nth I k with
 | some x=>x.n
 | none=>false
def kU (I:List ng) (N:Nat) (du:Nat→List Nat) (cf:List (List Nat)):DT→Nat→List Nat→Nat→Option (List Nat)→Bool
 | .done,_,_,L,none=>Nat.beq L N
 | .take j C' t,n+1,C,L,none=>match nth I j,nth cf j with
  | some x,some c=>match x.dst with
   | none=>false
   | some d=>x.n&&!jF d x.lo&&(C.all fun k=>match nth I k with
     | none=>false
     | some y=>!jF d y.lo&&(match y.dst with | some e=>!Nat.beq e d | none=>true)) &&
    c.all (fun i=>L.testBit i)&&!L.testBit j&&x.pr.all (fun e=>L.testBit e)&&Gm I C' &&
    AR (L ||| 2 ^ j) fun L'=>uZ I du L' (j :: C) C'&&kU I N du cf t n C' L' none
  | _,_=>false
 | .br i re C' t more,n+1,C,L,left=>match nth I i with
  | none=>false
  | some y=>(match left with
   | none=>fun (K:List Nat→Bool)=>zD (nh L 0 I) K
   | some l=>fun K=>K l) fun l=>
    R4 I du C re i y&&Gm I C'&&jF i l&&(AR (L ||| 2 ^ i) fun L'=>uZ I du L' C C'&&kU I N du cf t n C' L' none) &&
     kU I N du cf more (n+1) C L (some (l.filter fun k=>!Nat.beq k i))
 | .stop,_,_,_,some l=>l.isEmpty
 | .al j W t,n+1,C,L,none=>match nth I j with
  | some x=>match x.dst with
   | none=>false
   | some _=>C.isEmpty&&x.a&&!L.testBit j&&x.pr.all (fun e=>L.testBit e)&&Gl du L W j x 0 I&&AR (L ||| 2 ^ j) fun L'=>kU I N du cf t n [] L' none
  | none=>false
 | _,_,_,_,_=>false
def zF (E:Env) (f:FuncId) (ops:List Oper):List Nat→St→Prop
 | [],_=>True
 | k :: l,s=>(match nth ops k with
  | some ok=>EJ E f ops ok s
  | none=>True)∧zF E f ops l s
def sH (E:Env) (f:FuncId) (ops:List Oper):DT→(St→Prop)→St→Prop
 | .done,K,s=>K s
 | .take j _ t,K,s=>match nth ops j with
  | some oj=>ck E f ops oj (sH E f ops t K) s
  | none=>False
 | .br i re _ t more,K,s=>(match nth ops i with
  | some oi=>ck E f ops oi (fun s'=>zF E f ops re s'∧sH E f ops t K s') s
  | none=>False)∧sH E f ops more K s
 | .stop,_,_=>True
 | .al j W t,K,s=>match nth ops j with
  | some oj=>TL E f oj W s=true∧ck E f ops oj (sH E f ops t K) s
  | none=>False
def JR (l:List (List Nat)) (i:Nat):List Nat:=match nth l i with
 | some a=>a
 | none=>[]
section
variable {E:Env} {s t:St} {f:FuncId} {ops:Array Oper} {K:St→Prop} {du:Nat→List Nat}
theorem eK {x:Nat}:∀ {l:List Nat},jF x l=true↔x∈l
 | []=>by simp [jF]
 | y :: l=>by simp [jF,eK (l:=l)]
theorem ni {α:Type} (n:Nat) (K:Nat→α):AR n K=K n:=by cases n <;> rfl
theorem wA {α:Type}:∀ (l:List Nat) (K:List Nat→α),zD l K=K l
 | [],_=>rfl
 | a :: l,K=>by simp only [zD,ni]; rw [wA]
theorem NN {α:Type} (i:ng) (K:ng→α):TM i K=K i:=by
 obtain ⟨d,lo,pr,n,r,a⟩:=i
 cases d <;> cases n <;> cases r <;> cases a <;> simp [TM,wA,ni]
theorem CD {α:Type}:∀ (l:List ng) (K:List ng→α),Gk l K=K l
 | [],_=>rfl
 | a :: l,K=>by simp only [Gk,NN]; rw [CD]
def kr (ops:Array Oper):List ng:=ops.toList.map (kq ops)
theorem rX {k:Nat} {x:ng} (h:nth (kr ops) k=some x):∃ o,ops[k]?=some o∧x=kq ops o:=by
 rw [bc,kr,List.getElem?_map,Array.getElem?_toList] at h
 cases ho:ops[k]? with
 | none=>rw [ho] at h; cases h
 | some o=>rw [ho] at h; exact ⟨o,rfl,by simpa using h.symm⟩
theorem iZ {e:Nat}:∀ {l:List Edge},e∈py l↔∃ ed∈l,Region.binds .any ed=true∧ed.on=e
 | []=>by simp [py]
 | x :: l=>by
  unfold py
  cases hb:Region.binds .any x with
  | true=>
   simp only [cond_true,List.mem_cons,iZ (l:=l),exists_eq_or_imp,hb,true_and]
   constructor
   ·rintro (h | h)
    ·exact .inl h.symm
    ·exact .inr h
   ·rintro (h | h)
    ·exact .inl h.symm
    ·exact .inr h
  | false=>simp only [cond_false,List.mem_cons,iZ (l:=l),exists_eq_or_imp,hb,false_and,false_or,Bool.false_eq_true]
theorem zG {x y:Oper} (h:td (kq ops x) (kq ops y)=true):x.apart ops y=true:=by
 have hm:∀ (d:Nat) (l:List Nat),jF d l=false→l.contains d=false:=fun d l h=>by
  cases hc:l.contains d with
  | false=>rfl
  | true=>rw [eK.2 (by simpa using hc)] at h; cases h
 unfold td at h
 unfold Oper.apart
 simp only [kq,Bool.and_eq_true] at h ⊢
 refine ⟨?_,?_⟩
 ·cases hx:x.dst with
  | none=>rfl
  | some d=>
   rw [hx] at h
   simp only [Bool.and_eq_true,Bool.not_eq_true'] at h ⊢
   refine ⟨hm _ _ h.1.1,?_⟩
   have h2:=h.1.2
   cases hy:y.dst with
   | none=>rfl
   | some e=>
    rw [hy] at h2
    simp only [Bool.not_eq_true'] at h2
    have:e≠d:=fun k=>by rw [k,rr] at h2; cases h2
    simpa using this
 ·cases hy:y.dst with
  | none=>rfl
  | some d=>
   rw [hy] at h
   simp only [Bool.not_eq_true'] at h ⊢
   exact hm _ _ h.2
def CE (ops:Array Oper) (L:Nat) (listed:Array Bool):Prop:=listed.size=ops.size∧∀ i,i < ops.size→listed[i]?=some (L.testBit i)
theorem CE.add {L:Nat} {listed:Array Bool} (h:CE ops L listed) (j:Nat):CE ops (L ||| 2 ^ j) (listed.setIfInBounds j true):=by
 refine ⟨by simp [h.1],fun i hi=>?_⟩
 rw [Nat.testBit_or,Nat.testBit_two_pow]
 by_cases e:j=i
 ·subst e
  rw [Array.getElem?_setIfInBounds_self_of_lt (by rw [h.1]; exact hi)]
  simp
 ·rw [Array.getElem?_setIfInBounds_ne e,h.2 i hi]
  simp [e]
theorem CE.CF {L:Nat} {listed:Array Bool} (h:CE ops L listed) {i:Nat} (hi:i < ops.size) (b:Bool):listed.getD i b=L.testBit i:=by
 rw [Array.getD_eq_getD_getElem?,h.2 i hi]; rfl
theorem qG {L:Nat} {listed:Array Bool} (h:CE ops L listed) {j:Nat} {o:Oper} (ho:ops[j]?=some o) (h1:L.testBit j=false) (h2:((kq ops o).pr.all fun e=>L.testBit e)=true)
  (bV:∀ e∈o.after,Region.binds .any e=true→e.on < ops.size):j∈Region.ready .any ops listed:=by
 have hj:j < ops.size:=(Array.getElem?_eq_some_iff.1 ho).1
 refine mem_ready.2 ⟨by rw [h.CF hj]; exact h1,o,ho,fun e he hb=>?_⟩
 rw [h.CF (bV e he hb)]
 exact List.all_eq_true.1 h2 e.on (iZ.2 ⟨e,by simpa using he,hb,rfl⟩)
def TN (n:Nat) (I:List ng):Bool:=I.all fun x=>x.pr.all fun e=>Nat.blt e n
theorem gL {k:Nat} {o:Oper} (h:ops[k]?=some o):nth (kr ops) k=some (kq ops o):=by
 rw [bc,kr,List.getElem?_map,Array.getElem?_toList,h]; rfl
theorem ku {k:Nat} {o:Oper} (h:ops[k]?=some o):(kr ops)[k]?=some (kq ops o):=by
 rw [← bc]; exact gL h
theorem pC (h:TN ops.size (kr ops)=true) {k:Nat} {o:Oper} (ho:ops[k]?=some o):∀ e∈o.after,Region.binds .any e=true→e.on < ops.size:=fun e he hb=>by
 have h1:=List.all_eq_true.1 h (kq ops o) (List.mem_of_getElem? (ku ho))
 have h2:=List.all_eq_true.1 h1 e.on (iZ.2 ⟨e,by simpa using he,hb,rfl⟩)
 exact Nat.le_of_ble_eq_true h2
theorem wB {j:Nat} {x:ng} {c:List Nat}:∀ {l:List ng} {i:Nat},CB j x c i l=true→∀ k y,l[k]?=some y→(Nat.beq (i+k) j || jF j y.pr || jF (i+k) c || td x y)=true
 | [],_,_,k,y,hk=>by simp at hk
 | z :: l,i,h,k,y,hk=>by
  unfold CB at h
  rw [Bool.and_eq_true] at h
  cases k with
  | zero=>simp at hk; subst hk; exact h.1
  | succ k=>
   have:=wB h.2 k y (by simpa using hk)
   rw [show i+1+k=i+(k+1) by omega] at this
   exact this
theorem wC {I:List ng}:∀ {l:List ng} {j:Nat} {cs:List (List Nat)},CC I j l cs=true→∀ k x c,l[k]?=some x→cs[k]?=some c→x.n=true→CB (j+k) x c 0 I=true
 | [],_,_,_,k,x,c,hk,_,_=>by simp at hk
 | z :: l,j,[],_,k,x,c,_,hc,_=>by simp at hc
 | z :: l,j,d :: cs,h,k,x,c,hk,hc,hn=>by
  unfold CC at h
  rw [Bool.and_eq_true] at h
  cases k with
  | zero=>
   simp at hk hc
   subst hk hc
   have:=h.1
   rw [hn] at this
   simpa using this
  | succ k=>
   have:=wC h.2 k x c (by simpa using hk) (by simpa using hc) hn
   rw [show j+1+k=j+(k+1) by omega] at this
   exact this
theorem uc:∀ {l:List ng} {i:Nat},wz du i l=true→∀ k x,l[k]?=some x→∀ a∈du (i+k),∃ e∈x.pr,e=a∨a∈du e
 | [],_,_,k,x,hk=>by simp at hk
 | z :: l,i,h,k,x,hk=>by
  unfold wz at h
  rw [Bool.and_eq_true] at h
  cases k with
  | zero=>
   simp at hk
   subst hk
   intro a ha
   have h1:=List.all_eq_true.1 h.1 a ha
   obtain ⟨e,he,h2⟩:=List.any_eq_true.1 h1
   rw [Bool.or_eq_true] at h2
   refine ⟨e,he,?_⟩
   rcases h2 with h2 | h2
   ·exact .inl (Nat.eq_of_beq_eq_true h2)
   ·exact .inr (eK.1 h2)
  | succ k=>
   have:=uc h.2 k x (by simpa using hk)
   rw [show i+1+k=i+(k+1) by omega] at this
   exact this
theorem ER (h:wz du 0 (kr ops)=true):zC ops du:=fun i oi a hi ha=>by
 have h1:=uc h i _ (ku hi) a (by rw [Nat.zero_add]; exact ha)
 obtain ⟨e,he,h2⟩:=h1
 obtain ⟨ed,q1,q2,rfl⟩:=iZ.1 he
 exact ⟨ed,by simpa using q1,q2,h2⟩
theorem oD {L:Nat}:∀ {l:List ng} {i k:Nat},k∈nh L i l↔∃ j x,k=i+j∧l[j]?=some x∧L.testBit k=false∧(x.pr.all fun e=>L.testBit e)=true
 | [],i,k=>by simp [nh]
 | z :: l,i,k=>by
  have ih:=oD (L:=L) (l:=l) (i:=i+1) (k:=k)
  have rest:(∃ j x,k=i+1+j∧l[j]?=some x∧L.testBit k=false∧(x.pr.all fun e=>L.testBit e)=true)↔∃ j x,k=i+(j+1)∧(z :: l)[j+1]?=some x∧L.testBit k=false∧(x.pr.all fun e=>L.testBit e)=true:=by
   constructor
   ·rintro ⟨j,x,h1,h2⟩; exact ⟨j,x,by omega,by simpa using h2⟩
   ·rintro ⟨j,x,h1,h2⟩; exact ⟨j,x,by omega,by simpa using h2⟩
  unfold nh
  cases hc:(!L.testBit i&&z.pr.all fun e=>L.testBit e) with
  | true=>
   simp only [cond_true,List.mem_cons,ih,rest]
   rw [Bool.and_eq_true,Bool.not_eq_true'] at hc
   constructor
   ·rintro (rfl | ⟨j,x,h⟩)
    ·exact ⟨0,z,rfl,rfl,hc⟩
    ·exact ⟨j+1,x,h⟩
   ·rintro ⟨j,x,h1,h2⟩
    cases j with
    | zero=>exact .inl h1
    | succ j=>exact .inr ⟨j,x,h1,h2⟩
  | false=>
   simp only [cond_false,ih,rest]
   constructor
   ·rintro ⟨j,x,h⟩; exact ⟨j+1,x,h⟩
   ·rintro ⟨j,x,h1,h2,h3,h4⟩
    cases j with
    | zero=>
     simp at h2 h1
     subst h1 h2
     rw [h3,h4] at hc
     cases hc
    | succ j=>exact ⟨j,x,h1,h2,h3,h4⟩
theorem oE {L k:Nat} {x:ng}:∀ {l:List ng} {i:Nat},pA du L k x i l=true→∀ j y,l[j]?=some y→L.testBit (i+j)=false→pz x y=true→k∈du (i+j)
 | [],_,_,j,y,hj=>by simp at hj
 | z :: l,i,h,j,y,hj=>by
  unfold pA at h
  rw [Bool.and_eq_true] at h
  cases j with
  | zero=>
   simp at hj
   subst hj
   intro h1 h2
   have h3:=h.1
   rw [Nat.add_zero] at h1
   rw [h1,h2] at h3
   exact eK.1 (by simpa using h3)
  | succ j=>
   have:=oE h.2 j y (by simpa using hj)
   rw [show i+1+j=i+(j+1) by omega] at this
   exact this
theorem uf {L:Nat} {listed:Array Bool} (hM:CE ops L listed) {C C':List Nat} (h:uZ (kr ops) du L C C'=true):∀ k∈C,k∈C'∨∀ i ok oi,ops[k]?=some ok→ops[i]?=some oi→listed.getD i true=false→jo ok oi=true→k∈du i:=fun k hk=>by
 have h1:=List.all_eq_true.1 h k hk
 rw [Bool.or_eq_true] at h1
 rcases h1 with h1 | h1
 ·exact .inl (eK.1 h1)
 ·refine .inr fun i ok oi q1 q2 q3 q4=>?_
  rw [gL q1] at h1
  have hi:i < ops.size:=(Array.getElem?_eq_some_iff.1 q2).1
  have:=oE h1 i _ (ku q2) (by rw [Nat.zero_add,← hM.CF hi]; exact q3) q4
  rw [Nat.zero_add] at this
  exact this
theorem zH {C:List Nat} (h:Gm (kr ops) C=true):NC ops C:=fun k hk ok eB=>by
 have:=List.all_eq_true.1 h k hk
 rw [gL eB] at this
 exact this
theorem wD {L j:Nat} {x:ng} {W:List Nat}:∀ {l:List ng} {i:Nat},Gl du L W j x i l=true→∀ k y,l[k]?=some y→(Nat.beq (i+k) j || L.testBit (i+k) || jF j (du (i+k)) || (td x y&&y.lo.all fun e=>jF e W))=true
 | [],_,_,k,y,hk=>by simp at hk
 | z :: l,i,h,k,y,hk=>by
  unfold Gl at h
  rw [Bool.and_eq_true] at h
  cases k with
  | zero=>simp at hk; subst hk; exact h.1
  | succ k=>
   have:=wD h.2 k y (by simpa using hk)
   rw [show i+1+k=i+(k+1) by omega] at this
   exact this
theorem wE {d:Nat} {s:bj}:∀ {l:List Nat},Gj d s l=true→∀ e∈l,∀ off,lk s e≠.lp d off
 | [],_,e,he,_=>by cases he
 | a :: l,h,e,he,off=>by
  unfold Gj at h
  rw [Bool.and_eq_true] at h
  rcases List.mem_cons.1 he with rfl | he
  ·intro hv
   have h1:=h.1
   rw [hv] at h1
   simp only [rr] at h1
   cases h1
  ·exact wE h.2 e he off
theorem oF {cf:List (List Nat)} (hA:zC ops du) (hP:TN ops.size (kr ops)=true) (hF:CC (kr ops) 0 (kr ops) cf=true) (hK:Inv K):∀ (T:DT) (n:Nat) (C:List Nat) (listed:Array Bool) (L:Nat),NC ops C→nf du listed→CE ops L listed →
  (kU (kr ops) (2 ^ ops.size - 1) du cf T n C L none=true→∀ s,sH E f ops.toList T K s→fx E f ops du C K n listed s) ∧
  (∀ m l,n=m+1→kU (kr ops) (2 ^ ops.size - 1) du cf T n C L (some l)=true→∀ s,sH E f ops.toList T K s→∀ i∈l,i∈Region.ready .any ops listed→∀ oi,ops[i]?=some oi →
   ck E f ops.toList oi (fun s'=>HQ E f ops du C i s'∧fx E f ops du C K m (listed.setIfInBounds i true) s') s)
 | .done,n,C,listed,L,hC,je,hM=>by
  refine ⟨fun h s hs=>?_,fun m l _ h=>by simp [kU] at h⟩
  have hL:L=2 ^ ops.size - 1:=Nat.eq_of_beq_eq_true (by simpa only [kU] using h)
  have hr:Region.ready .any ops listed=[]:=by
   apply List.eq_nil_iff_forall_not_mem.2
   intro j hj
   obtain ⟨h1,o,ho,_⟩:=mem_ready.1 hj
   have bV:j < ops.size:=(Array.getElem?_eq_some_iff.1 ho).1
   rw [hM.CF bV,hL,Nat.testBit_two_pow_sub_one] at h1
   simp [bV] at h1
  cases n with
  | zero=>exact ⟨hr,hs⟩
  | succ n=>exact ⟨fun _=>hs,fun i hi=>by rw [hr] at hi; simp at hi⟩
 | .stop,n,C,listed,L,hC,je,hM=>by
  refine ⟨fun h=>by cases n <;> simp [kU] at h,fun m l e h s _ i hi=>?_⟩
  subst e
  have:l=[]:=by simpa [kU] using h
  rw [this] at hi
  simp at hi
 | .al j W T,0,C,listed,L,hC,je,hM=>⟨fun h=>by simp [kU] at h,fun m l e=>by cases e⟩
 | .al j W T,n+1,C,listed,L,hC,je,hM=>by
  refine ⟨fun h s hs=>?_,fun m l _ h=>by simp [kU] at h⟩
  unfold kU at h
  split at h
  ·rename_i x hx
   obtain ⟨oj,hj,rfl⟩:=rX hx
   split at h
   ·cases h
   ·rename_i d hd
    simp only [ni,Bool.and_eq_true] at h
    obtain ⟨⟨⟨⟨⟨hCe,yM⟩,hbit⟩,Yb⟩,vG⟩,hT⟩:=h
    have hCe:C=[]:=by simpa using hCe
    subst hCe
    have yM:bU oj.op=true:=yM
    have hd:oj.dst=some d:=hd
    have wF:j∈Region.ready .any ops listed:=qG hM hj (by simpa using hbit) Yb (pC hP hj)
    obtain ⟨ih,_⟩:=oF hA hP hF hK T n [] (listed.setIfInBounds j true) (L ||| 2 ^ j) (fun k hk=>by cases hk) (je.add hA wF) (hM.add j)
    unfold sH at hs
    rw [bc,Array.getElem?_toList,hj] at hs
    simp only at hs
    obtain ⟨eB,hs⟩:=hs
    unfold TL at eB
    split at eB
    ·rename_i _ d' hg FV
     rw [hd] at FV
     cases FV
     rw [Bool.and_eq_true] at eB
     have TJ:E.yy f d=false:=by simpa using eB.1
     have S9:ck E f ops.toList oj (fx E f ops du [] K n (listed.setIfInBounds j true)) s:=cm hs fun s' h'=>ih hT s' h'
     unfold ck at S9
     rw [hg] at S9
     obtain ⟨s1,q1,q2⟩:=(Gh yM).1 S9
     refine JQ hA hK hj hg hd yM TJ n listed s s1 je (fun i oi hi cP JO sZ=>?_) wF q1 q2
     have fJ:=wD vG i _ (ku hi)
     rw [Nat.zero_add] at fJ
     simp only [Bool.or_eq_true] at fJ
     have TO:i < ops.size:=(Array.getElem?_eq_some_iff.1 hi).1
     rcases fJ with ((h1 | h1) | h1) | h1
     ·exact absurd (Nat.eq_of_beq_eq_true h1) cP
     ·rw [hM.CF TO,h1] at JO; cases JO
     ·exact absurd (eK.1 h1) sZ
     ·rw [Bool.and_eq_true] at h1
      exact ⟨zG h1.1,fun e he off=>wE eB.2 e (eK.1 (List.all_eq_true.1 h1.2 e he)) off⟩
    ·cases eB
  ·cases h
 | .take j C' T,0,C,listed,L,hC,je,hM=>⟨fun h=>by simp [kU] at h,fun m l e=>by cases e⟩
 | .take j C' T,n+1,C,listed,L,hC,je,hM=>by
  refine ⟨fun h s hs=>?_,fun m l _ h=>by simp [kU] at h⟩
  unfold kU at h
  split at h
  ·rename_i x c hx hc
   obtain ⟨oj,hj,rfl⟩:=rX hx
   split at h
   ·cases h
   ·rename_i d hd
    simp only [ni,Bool.and_eq_true] at h
    obtain ⟨⟨⟨⟨⟨⟨⟨hN,Cy⟩,hCd⟩,hcf⟩,hbit⟩,Yb⟩,nR⟩,TP,hT⟩:=h
    have hN:sG oj.op=true:=hN
    have hd:oj.dst=some d:=hd
    have wF:j∈Region.ready .any ops listed:=qG hM hj (by simpa using hbit) Yb (pC hP hj)
    have WM:∀ {d:Nat} {l:List Nat},(!jF d l)=true→d∉l:=fun h hm=>by rw [eK.2 hm] at h; cases h
    have TQ:d∉oj.looksAt ops:=WM Cy
    have abF:∀ k∈C,∀ ok,ops[k]?=some ok→d∉ok.looksAt ops∧ok.dst≠some d:=fun k hk ok eB=>by
     have:=List.all_eq_true.1 hCd k hk
     rw [gL eB] at this
     simp only [Bool.and_eq_true] at this
     refine ⟨WM this.1,fun e=>?_⟩
     have h2:=this.2
     simp only [kq,e,rr] at h2
     cases h2
    have Nb:NC ops (j :: C):=fun k hk ok ho=>by
     rcases List.mem_cons.1 hk with rfl | hk
     ·rw [hj] at ho; cases ho; exact hN
     ·exact hC k hk ok ho
    have abG:=je.add hA wF
    obtain ⟨ih,_⟩:=oF hA hP hF hK T n C' (listed.setIfInBounds j true) (L ||| 2 ^ j) (zH nR) abG (hM.add j)
    unfold sH at hs
    rw [bc,Array.getElem?_toList,hj] at hs
    simp only at hs
    have S9:ck E f ops.toList oj (fx E f ops du (j :: C) K n (listed.setIfInBounds j true)) s:=cm hs fun s' h'=>nb n _ _ (uf (hM.add j) TP) (ih hT s' h')
    obtain ⟨x,rA,hk⟩:=wq hN (ic Nb hK _ _) S9
    rw [hd] at hk
    refine EQ hA hC hK hj hN hd TQ abF n listed s x je (fun i oi hi cP JO sZ=>?_) wF rA hk
    have vG:=wC hF j _ c (ku hj) (by rw [← bc]; exact hc) hN
    have fJ:=wB vG i _ (ku hi)
    rw [Nat.zero_add,Nat.zero_add] at fJ
    simp only [Bool.or_eq_true] at fJ
    have TO:i < ops.size:=(Array.getElem?_eq_some_iff.1 hi).1
    rcases fJ with ((h1 | h1) | h1) | h1
    ·exact absurd (Nat.eq_of_beq_eq_true h1) cP
    ·obtain ⟨e,q1,q2,q3⟩:=iZ.1 (eK.1 h1)
     exact absurd q3 (sZ e (by simpa using q1) q2)
    ·have:=List.all_eq_true.1 hcf i (eK.1 h1)
     rw [hM.CF TO,this] at JO
     cases JO
    ·exact zG h1
  ·cases h
 | .br i re C' T more,0,C,listed,L,hC,je,hM=>⟨fun h=>by simp [kU] at h,fun m l e=>by cases e⟩
 | .br i re C' T more,n+1,C,listed,L,hC,je,hM=>by
  have main:∀ left l,(match left with | none=>nh L 0 (kr ops) | some l=>l)=l→kU (kr ops) (2 ^ ops.size - 1) du cf (.br i re C' T more) (n+1) C L left=true→∀ s,sH E f ops.toList (.br i re C' T more) K s→i∈l∧∀ k∈l,k∈Region.ready .any ops listed→∀ ok,ops[k]?=some ok →
    ck E f ops.toList ok (fun s'=>HQ E f ops du C k s'∧fx E f ops du C K n (listed.setIfInBounds k true) s') s:=by
   intro left l hl h s hs
   unfold kU at h
   split at h
   ·cases h
   ·rename_i y hy
    obtain ⟨oi,rW,rfl⟩:=rX hy
    have h:(R4 (kr ops) du C re i (kq ops oi)&&Gm (kr ops) C'&&jF i l&&(uZ (kr ops) du (L ||| 2 ^ i) C C'&&kU (kr ops) (2 ^ ops.size - 1) du cf T n C' (L ||| 2 ^ i) none) &&
     kU (kr ops) (2 ^ ops.size - 1) du cf more (n+1) C L (some (l.filter fun k=>!Nat.beq k i)))=true:=by
     cases left with
     | none=>simp only at hl; subst hl; simp only [wA,ni] at h; exact h
     | some l'=>simp only at hl; subst hl; simp only [ni] at h; exact h
    simp only [Bool.and_eq_true] at h
    obtain ⟨⟨⟨⟨XI,nR⟩,pU⟩,TP,hT⟩,hmore⟩:=h
    unfold sH at hs
    refine ⟨eK.1 pU,fun k hk hkr ok eB=>?_⟩
    by_cases e:k=i
    ·subst e
     rw [rW] at eB
     cases eB
     obtain ⟨ih,_⟩:=oF hA hP hF hK T n C' (listed.setIfInBounds k true) (L ||| 2 ^ k) (zH nR) (je.add hA hkr) (hM.add k)
     have h1:=hs.1
     rw [bc,Array.getElem?_toList,rW] at h1
     refine cm h1 fun s' h'=>⟨fun c hc oc RZ q1 q2 q3 q4=>?_,nb n _ _ (uf (hM.add k) TP) (ih hT s' h'.2)⟩
     rw [rW] at q2
     cases q2
     have vT:=List.all_eq_true.1 XI c hc
     rw [gL q1] at vT
     have q3':pz (kq ops oc) (kq ops oi)=true:=q3
     simp only [q3',Bool.not_true,Bool.false_or,Bool.or_eq_true] at vT
     rcases vT with vT | vT
     ·have hm:c∈re:=eK.1 vT
      have:∀ (re:List Nat),c∈re→zF E f ops.toList re s'→EJ E f ops.toList oc s':=by
       intro re
       induction re with
       | nil=>intro hm; simp at hm
       | cons a re ihr=>
        intro hm ha
        rcases List.mem_cons.1 hm with rfl | hm
        ·have:=ha.1
         rw [bc,Array.getElem?_toList,q1] at this
         exact this
        ·exact ihr hm ha.2
      exact this re hm h'.1
     ·exact absurd (eK.1 vT) q4
    ·obtain ⟨_,ih⟩:=oF hA hP hF hK more (n+1) C listed L hC je hM
     refine ih n _ rfl hmore s hs.2 k ?_ hkr ok eB
     rw [List.mem_filter]
     exact ⟨hk,by rw [mO e]; rfl⟩
  refine ⟨fun h s hs=>?_,fun m l e h s hs k hk hkr ok eB=>?_⟩
  ·obtain ⟨m1,m2⟩:=main none _ rfl h s hs
   have back:∀ k,k∈nh L 0 (kr ops)→k∈Region.ready .any ops listed:=fun k hk=>by
    obtain ⟨j,x,q1,q2,q3,q4⟩:=oD.1 hk
    rw [Nat.zero_add] at q1
    subst q1
    rw [← bc] at q2
    obtain ⟨o,ho,rfl⟩:=rX q2
    exact qG hM ho q3 q4 (pC hP ho)
   have Yc:∀ k,k∈Region.ready .any ops listed→k∈nh L 0 (kr ops):=fun k hk=>by
    obtain ⟨h1,o,ho,nR⟩:=mem_ready.1 hk
    have bV:k < ops.size:=(Array.getElem?_eq_some_iff.1 ho).1
    refine oD.2 ⟨k,kq ops o,by omega,ku ho,by rw [← hM.CF bV]; exact h1,List.all_eq_true.2 fun e he=>?_⟩
    obtain ⟨ed,q1,q2,rfl⟩:=iZ.1 he
    have h2:=nR ed (by simpa using q1) q2
    rw [hM.CF (pC hP ho ed (by simpa using q1) q2)] at h2
    exact h2
   refine ⟨fun h0=>?_,fun k hk ok eB=>m2 k (Yc k hk) hk ok eB⟩
   have:=back i m1
   rw [h0] at this
   simp at this
  ·cases e
   exact (main (some l) l rfl h s hs).2 k hk hkr ok eB
theorem wG {R:ao} {w:World} {β:Nat→Nat} {F:Fence} {Qc:Exit→Act→World→Prop} {C:List Nat} (hQ:∀ a' w',oz E R w β s K a' w'→Qc .normal a' w') :
  ∀ (n:Nat) (listed:Array Bool) (R1:ao) (w1:World) (β1:Nat→Nat) (s1:St) (a1:Act),bn E R1 w1 β1 s1 a1→Step R w β s.boxes R1 w1 β1 s1.boxes→s1.ro=s.ro→bT R1 s1.ro F →
   fx E f ops du C K n listed s1→wpAnyIn F 0 E.P .any ops Qc n listed a1 w1
 | 0,listed,R1,w1,β1,s1,a1,hr,kT,bR,_,ha=>⟨ha.1,hQ _ _ ⟨s1,R1,β1,ha.2,hr,kT,bR⟩⟩
 | n+1,listed,R1,w1,β1,s1,a1,hr,kT,bR,hf,ha=>by
  refine ⟨fun h0=>hQ _ _ ⟨s1,R1,β1,ha.1 h0,hr,kT,bR⟩,fun i hi=>?_⟩
  obtain ⟨_,o,ho,_⟩:=mem_ready.1 hi
  unfold wpOpIn
  simp only [ho]
  refine rR hr hf (ha.2 i hi o ho) _ ?_
  rintro a' w' ⟨s',R',β',q1,q2,q3,q4⟩
  exact wG hQ n _ R' w' β' s' a' q2 (kT.trans q3) (q4.trans bR) (by rw [q4]; exact hf.mono q3.ext) q1.2
theorem fk {K':St→Prop} (hK:∀ s,K s→K' s):∀ (T:DT) (s:St),sH E f ops.toList T K s→sH E f ops.toList T K' s
 | .done,s,h=>hK s h
 | .stop,_,_=>trivial
 | .take j C T,s,h=>by
  unfold sH at h ⊢
  split
  ·rename_i oj hj
   rw [hj] at h
   exact cm h fun s' h'=>fk hK T s' h'
  ·rename_i hj
   rw [hj] at h
   exact h
 | .al j W T,s,h=>by
  unfold sH at h ⊢
  split
  ·rename_i oj hj
   rw [hj] at h
   exact ⟨h.1,cm h.2 fun s' h'=>fk hK T s' h'⟩
  ·rename_i hj
   rw [hj] at h
   exact h
 | .br i re C T more,s,h=>by
  unfold sH at h ⊢
  refine ⟨?_,fk hK more s h.2⟩
  have h:=h.1
  split
  ·rename_i oj hj
   rw [hj] at h
   exact cm h fun s' h'=>⟨h'.1,fk hK T s' h'.2⟩
  ·rename_i hj
   rw [hj] at h
   exact h
structure aj where
 du:List (List Nat)
 cf:List (List Nat)
 T:DT
def ES (ops:Array Oper) (p:aj):Bool:=Gk (ops.toList.map (kq ops)) fun I=>
 AR ops.size fun n=>AR (2 ^ n - 1) fun N=>wz (JR p.du) 0 I&&TN n I&&CC I 0 I p.cf&&kU I N (JR p.du) p.cf p.T n [] 0 none
theorem bn.drawn {R:ao} {w:World} {β:Nat→Nat} {a:Act} (h:bn E R w β s a):bn E R { w with drawn:=w.drawn+1 } β s a∧Step R w β s.boxes R { w with drawn:=w.drawn+1 } β s.boxes:=by
 have e:Ext R w R { w with drawn:=w.drawn+1 }:=⟨fun _ _ h=>h,fun _ _ _=>rfl,fun _ ro h=>⟨ro,h,cD.refl ro⟩,gy.refl w⟩
 refine ⟨⟨⟨h.g.len,fun id go ro h1 h2=>(h.g.obj id go ro h1 h2).mono e (fun _ _=>rfl) (fun _ _ _ h=>h),h.g.inj,h.g.wf,fun g cs hg=>(h.g.cb g cs hg).mono e,Nat.le_succ_of_le h.g.lo⟩,?_,h.t.mono e,h.n,h.d⟩,?_⟩
 ·exact h.b.bE e (fun _ _ _=>rfl) (fun _ _ _ _ h=>h) (fun _ _ _ h=>h)
 ·exact ⟨e,rfl,rfl,rfl,Nat.le_refl _,fun _ _ _=>rfl,fun _ _ h=>h,fun _ _ h _ _=>h⟩
theorem fK.draw {id:Nat} {p:aj} {Q:Exit→St→Prop} (eB:ES ops p=true) (h:sH E f ops.toList p.T (Q .normal) s):fK E (.region id ops true) Q s:=fun R w β a F hr hf=>by
 simp only [ES,CD,ni,Bool.and_eq_true] at eB
 obtain ⟨⟨⟨hA,hP⟩,hF⟩,hT⟩:=eB
 refine wpIn_region_any E.mixed ?_
 obtain ⟨q1,q2⟩:=hr.drawn
 have hK:Inv (fun s=>∃ u,pw u s∧Q .normal u):=fun s t e ⟨u,h1,h2⟩=>⟨u,h1.trans e,h2⟩
 have h':=fk (K':=fun s=>∃ u,pw u s∧Q .normal u) (fun s h=>⟨s,pw.refl s,h⟩) p.T s h
 have je:nf (JR p.du) (Array.replicate ops.size false):=fun i hi=>by
  rw [Array.getD_eq_getD_getElem?,Array.getElem?_replicate] at hi
  split at hi <;> cases hi
 have TS:=(oF (E:=E) (f:=f) (ER hA) hP hF hK p.T ops.size [] (Array.replicate ops.size false) 0 (fun k hk=>by simp at hk) je ⟨by simp,fun i hi=>by simp [hi]⟩).1 hT s h'
 refine wG (R:=R) (w:=w) (β:=β) (s:=s) (f:=f) (K:=fun s=>∃ u,pw u s∧Q .normal u) ?_ _ _ R _ β s a q1 q2 rfl hf TS
 rintro a' w' ⟨s',R',β',⟨u,e,hu⟩,h2,h3,h4⟩
 exact ⟨u,R',β',hu,h2.eqv e.symm,h3.eqv rfl e.symm.b,e.ro.trans h4⟩
end
end Go.Am
