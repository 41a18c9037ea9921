/- The abstract machine: regions whose order the tape draws,along a tree of choices that was checked. -/
import Derived.Test.YtegoimldbgdeiaaAmKG
set_option linter.all false
namespace Go.Am
open Go
section
variable {E:Env} {s t:St} {f:FuncId} {ops:Array Oper} {o oj oi:Oper} {d:Tmp} {x:SV} {K K':St→Prop} {cQ:Nat→List Nat} {C:List Nat}
def Ea (E:Env) (f:FuncId) (ops:Array Oper) (cQ:Nat→List Nat) (C:List Nat) (i:Nat) (s:St):Prop:=
 ∀ j∈C,∀ oj oi,ops[j]?=some oj→ops[i]?=some oi→iJ oj oi=true→j∉cQ i→BD E f ops.toList oj s
def NC (ops:Array Oper) (C:List Nat):Prop:=∀ j∈C,∀ oj,ops[j]?=some oj→qI oj.op=true
theorem nV {i:Nat} (hC:NC ops C):Inv (Ea E f ops cQ C i):=fun _ _ e h j hj oj oi h1 h2 h3 h4=>HV (hC j hj oj h1) e (h j hj oj oi h1 h2 h3 h4)
def fq (E:Env) (f:FuncId) (ops:Array Oper) (cQ:Nat→List Nat) (C:List Nat) (K:St→Prop):Nat→Array Bool→St→Prop
 | 0,listed,s=>Region.ready .any ops listed=[]∧K s
 | n+1,listed,s=>(Region.ready .any ops listed=[]→K s) ∧
   ∀ i∈Region.ready .any ops listed,∀ oi,ops[i]?=some oi→bL E f ops.toList oi (fun s'=>Ea E f ops cQ C i s'∧fq E f ops cQ C K n (listed.setIfInBounds i true) s') s
theorem gE (hC:NC ops C) (hK:Inv K):∀ n listed,Inv (fq E f ops cQ C K n listed)
 | 0,_=>fun s t e h=>⟨h.1,hK s t e h.2⟩
 | n+1,_=>fun s t e h=>⟨fun h0=>hK s t e (h.1 h0),fun i hi oi qh=>zH (fun s t e h=>⟨nV hC s t e h.1,gE hC hK n _ s t e h.2⟩) s t e (h.2 i hi oi qh)⟩
theorem mi {C':List Nat}:∀ n (listed:Array Bool) (s:St),
  (∀ k∈C',k∈C∨∀ i ok oi,ops[k]?=some ok→ops[i]?=some oi→listed.getD i true=false→iJ ok oi=true→k∈cQ i) →
  fq E f ops cQ C K n listed s→fq E f ops cQ C' K n listed s
 | 0,_,_,_,h=>h
 | n+1,listed,s,hk,h=>⟨h.1,fun i hi oi qh=>bM (h.2 i hi oi qh) fun s' h'=>⟨fun k Lo ok JL h1 h2 h3 h4=>by
   rcases hk k Lo with h5 | h5
   ·exact h'.1 k h5 ok JL h1 h2 h3 h4
   ·exact absurd (h5 i ok JL h1 h2 (mem_ready.1 hi).1 h3) h4,mi n _ s' (fun k Lo=>by
   rcases hk k Lo with h5 | h5
   ·exact .inl h5
   ·refine .inr fun i' ok JL h1 h2 h3 h4=>h5 i' ok JL h1 h2 ?_ h4
    by_cases e:i=i'
    ·subst e; exact (mem_ready.1 hi).1
    ·rw [getD_set_ne true e] at h3; exact h3) h'.2⟩⟩
def wO (ops:Array Oper) (cQ:Nat→List Nat):Prop:=∀ i oi a,ops[i]?=some oi→a∈cQ i→∃ e∈oi.after,Region.binds .any e=true∧(e.on=a∨a∈cQ e.on)
def mj (cQ:Nat→List Nat) (listed:Array Bool):Prop:=∀ i,listed.getD i false=true→∀ a∈cQ i,listed.getD a false=true
theorem mj.ready {listed:Array Bool} (h:mj cQ listed) (ha:wO ops cQ) {i:Nat} (hi:i∈Region.ready .any ops listed):∀ a∈cQ i,listed.getD a false=true:=fun a QO=>by
 obtain ⟨_,o,ho,qi⟩:=mem_ready.1 hi
 obtain ⟨e,he,hb,h2⟩:=ha i o a ho QO
 rcases h2 with rfl | h2
 ·exact qi e he hb
 ·exact h _ (qi e he hb) a h2
theorem jd {listed:Array Bool} {i:Nat} (h:listed.getD i false=true):listed.getD i true=true:=by
 rw [Array.getD_eq_getD_getElem?] at *
 cases hl:listed[i]? with
 | none=>rw [hl] at h; cases h
 | some b=>rw [hl] at h; exact h
theorem mj.add {listed:Array Bool} (h:mj cQ listed) (ha:wO ops cQ) {i:Nat} (hi:i∈Region.ready .any ops listed):mj cQ (listed.setIfInBounds i true):=fun k hk a QO=>by
 by_cases e:i=k
 ·subst e
  exact getD_set_true (h.ready ha hi a QO)
 ·rw [getD_set_ne false e] at hk
  exact getD_set_true (h k hk a QO)
theorem BJ (hA:wO ops cQ) (hC:NC ops C) (hK:Inv K) {j:Nat} (hj:ops[j]?=some oj) (hN:qI oj.op=true) (CP:oj.dst=some d) (zJ:d∉oj.looksAt ops)
  (RS:∀ k∈C,∀ ok,ops[k]?=some ok→d∉ok.looksAt ops∧ok.dst≠some d):∀ n (listed:Array Bool) (s:St) (x:SV),mj cQ listed →
   (∀ i oi,ops[i]?=some oi→i≠j→listed.getD i true=false→(∀ e∈oi.after,Region.binds .any e=true→e.on≠j)→oj.apart ops oi=true) →
   j∈Region.ready .any ops listed→uh E f ops oj s x→fq E f ops cQ (j :: C) K n (listed.setIfInBounds j true) (s.put (some d) x)→fq E f ops cQ C K (n+1) listed s:=by
 have Hr:NC ops (j :: C):=fun k hk ok ho=>by
  rcases List.mem_cons.1 hk with rfl | hk
  ·rw [hj] at ho; cases ho; exact hN
  ·exact hC k hk ok ho
 have self:∀ n (listed:Array Bool) (s:St) (x:SV),uh E f ops oj s x→fq E f ops cQ (j :: C) K n (listed.setIfInBounds j true) (s.put (some d) x)→∀ oi,ops[j]?=some oi →
   bL E f ops.toList oi (fun s'=>Ea E f ops cQ C j s'∧fq E f ops cQ C K n (listed.setIfInBounds j true) s') s:=fun n listed s x hx h oi qh=>by
  rw [hj] at qh
  cases qh
  refine uj hN (fun s t e h=>⟨nV hC s t e h.1,gE hC hK _ _ s t e h.2⟩) hx ?_
  rw [CP]
  refine ⟨fun k _ ok JL _ h2 h3 _=>?_,mi n _ _ (fun k hk=>.inl (List.mem_cons_of_mem _ hk)) h⟩
  rw [hj] at h2
  cases h2
  simp [iJ,zF hN,hN] at h3
 intro n
 induction n with
 | zero=>
  intro listed s x _ _ hr hx h
  refine ⟨fun h0=>by rw [h0] at hr; simp at hr,fun i hi oi qh=>?_⟩
  by_cases e:i=j
  ·subst e; exact self 0 listed s x hx h oi qh
  ·have:=ready_mono hi e
   rw [h.1] at this
   simp at this
 | succ n ih=>
  intro listed s x jb jR hr hx h
  refine ⟨fun h0=>by rw [h0] at hr; simp at hr,fun i hi oi qh=>?_⟩
  by_cases e:i=j
  ·subst e; exact self (n+1) listed s x hx h oi qh
  ·have FL:=(mem_ready.1 hi).1
   have H0:=(mem_ready.1 hr).1
   have KV:∀ ed∈oi.after,Region.binds .any ed=true→ed.on≠j:=fun ed he hb jH=>by
    obtain ⟨_,o,ho,qi⟩:=mem_ready.1 hi
    rw [qh] at ho
    cases ho
    have h1:=jd (qi ed he hb)
    rw [jH,H0] at h1
    cases h1
   have N2:=jR i oi qh e FL KV
   have hG:=h.2 i (ready_mono hi e) oi qh
   have FM:j∉cQ i:=fun hm=>by
    have h1:=jd (jb.ready hA hi j hm)
    rw [H0] at h1
    cases h1
   have QP:Inv (fun s'=>Ea E f ops cQ (j :: C) i s'∧fq E f ops cQ (j :: C) K n ((listed.setIfInBounds j true).setIfInBounds i true) s'):=
    fun s t e h=>⟨nV Hr s t e h.1,gE Hr hK _ _ s t e h.2⟩
   have Lp:∀ k ok,ops[k]?=some ok→k≠j→(listed.setIfInBounds i true).getD k true=false→(∀ e∈ok.after,Region.binds .any e=true→e.on≠j)→oj.apart ops ok=true:=fun k ok hk RT Pf qZ=>by
    refine jR k ok hk RT ?_ qZ
    by_cases e':i=k
    ·subst e'; exact FL
    ·rw [getD_set_ne true e'] at Pf; exact Pf
   have core:∀ {pre:aT} {preB:cm} {G:List GO},N0 (bB oi.op) oi.dst pre→(qI oi.op=true→preB=[]∧G=s.G) →
     (Ea E f ops cQ (j :: C) i ((s.put (some d) x).eY pre preB G)∧fq E f ops cQ (j :: C) K n ((listed.setIfInBounds j true).setIfInBounds i true) ((s.put (some d) x).eY pre preB G)) →
     Ea E f ops cQ C i (s.eY pre preB G)∧fq E f ops cQ C K (n+1) (listed.setIfInBounds i true) (s.eY pre preB G):=by
    intro pre preB G zK Pd hk
    obtain ⟨x',su,iY⟩:=D4 hN CP zJ N2 QP hx zK Pd hk (fun t' zM hd=>zM.1 j (List.mem_cons_self ..) oj oi hj qh hd FM)
    refine ⟨fun k Lo ok JL h1 h2 h3 h4=>?_,?_⟩
    ·obtain ⟨q1,q2⟩:=RS k Lo ok h1
     obtain ⟨b1,b2,b3,_⟩:=fJ (s.eY pre preB G) (some d) x'
     exact HU (hC k Lo ok h1) q1 q2 (fun e he=>sV _ _ _ he) (by rw [b1]) b2 b3 (iY.1 k (List.mem_cons_of_mem _ Lo) ok JL h1 h2 h3 h4)
    ·refine ih (listed.setIfInBounds i true) _ x' (jb.add hA hi) Lp (ready_mono hr (Ne.symm e)) su ?_
     rw [Array.setIfInBounds_comm _ _ e]
     exact iY.2
   rw [fI (fun s t e h=>⟨nV hC s t e h.1,gE hC hK _ _ s t e h.2⟩)]
   obtain ⟨HO,_,_⟩:=Oper.apart_spec N2
   have tC:∀ e∈oi.looksAt ops,lk (s.put (some d) x).ae e=lk s.ae e:=fun e he=>sV s d x fun k=>HO d CP (k ▸ he)
   obtain ⟨b1,b2,b3,b4,b5⟩:=fJ s (some d) x
   rcases (fI QP).1 hG with ⟨h1,h2⟩ | ⟨h1,h2⟩
   ·refine .inl ⟨by rw [← jJ tC]; exact h1,rk b3 b2 (by rw [b1]) (jW tC) h2 fun pre preB G hp Pd hk=>core hp (fun hh=>?_) hk⟩
    obtain ⟨q1,q2⟩:=Pd hh
    exact ⟨q1,by rw [q2,b2]⟩
   ·refine .inr ⟨by rw [← jJ tC]; exact h1,?_⟩
    obtain ⟨pre,preB,G,p1,p2,p3,p4⟩:=bq.put (s:=s.put (some d) x) (t:=s) (al:=bB oi.op) (w:=false) b3 b2 oi.dst (.v fA)
    obtain ⟨q1,q2,_⟩:=p2 rfl
    rw [p3] at h2
    rw [p4]
    exact core p1 (fun _=>⟨q1,by rw [q2,b2]⟩) h2
theorem CS {i:Nat} {s:St}:Ea E f ops cQ [] i s:=fun j hj=>by cases hj
theorem Lq {y:Operand} {k off:Nat} (h:bc E s.ae y=.lp k off):∃ e,y=.tmp e∧lk s.ae e=.lp k off:=by
 cases y with
 | tmp e=>exact ⟨e,rfl,h⟩
 | const v=>simp only [bc] at h; split at h <;> cases h
 | global g=>simp only [bc] at h; split at h <;> cases h
 | func g=>cases h
theorem FN (hA:wO ops cQ) (hK:Inv K) {j:Nat} (hj:ops[j]?=some oj) (hg:oj.guard=none) (CP:oj.dst=some d) (D5:bB oj.op=true) (Lr:E.vA f d=false):∀ n (listed:Array Bool) (s s1:St),mj cQ listed →
  (∀ i oi,ops[i]?=some oi→i≠j→listed.getD i true=false→j∉cQ i→oj.apart ops oi=true∧∀ e∈oi.looksAt ops,∀ off,lk s.ae e≠.lp d off) →
  j∈Region.ready .any ops listed→ak E f s oj=some (true,s1)→fq E f ops cQ [] K n (listed.setIfInBounds j true) s1→fq E f ops cQ [] K (n+1) listed s:=by
 have Hr:NC ops []:=fun k hk=>by cases hk
 have self:∀ n (listed:Array Bool) (s s1:St),ak E f s oj=some (true,s1)→fq E f ops cQ [] K n (listed.setIfInBounds j true) s1→∀ oi,ops[j]?=some oi →
   bL E f ops.toList oi (fun s'=>Ea E f ops cQ [] j s'∧fq E f ops cQ [] K n (listed.setIfInBounds j true) s') s:=fun n listed s s1 hx h oi qh=>by
  rw [hj] at qh
  cases qh
  unfold bL
  rw [hg]
  exact (CR D5).2 ⟨s1,hx,CS,h⟩
 intro n
 induction n with
 | zero=>
  intro listed s s1 _ _ hr hx h
  refine ⟨fun h0=>by rw [h0] at hr; simp at hr,fun i hi oi qh=>?_⟩
  by_cases e:i=j
  ·subst e; exact self 0 listed s s1 hx h oi qh
  ·have:=ready_mono hi e
   rw [h.1] at this
   simp at this
 | succ n ih=>
  intro listed s s1 jb jR hr hx h
  refine ⟨fun h0=>by rw [h0] at hr; simp at hr,fun i hi oi qh=>?_⟩
  by_cases e:i=j
  ·subst e; exact self (n+1) listed s s1 hx h oi qh
  ·have FL:=(mem_ready.1 hi).1
   have H0:=(mem_ready.1 hr).1
   have FM:j∉cQ i:=fun hm=>by
    have h1:=jd (jb.ready hA hi j hm)
    rw [H0] at h1
    cases h1
   obtain ⟨N2,qZ⟩:=jR i oi qh e FL FM
   obtain ⟨HO,cr,tN⟩:=Oper.apart_spec N2
   have FK:oi.dst≠some d:=cr d CP
   obtain ⟨_,cs,rfl,CH⟩:=BH D5 CP Lr hx
   have hG:=h.2 i (ready_mono hi e) oi qh
   have QP:Inv (fun s'=>Ea E f ops cQ [] i s'∧fq E f ops cQ [] K n ((listed.setIfInBounds j true).setIfInBounds i true) s'):=
    fun s t e h=>⟨nV Hr s t e h.1,gE Hr hK _ _ s t e h.2⟩
   have D9:∀ y∈oi.op.operands,∀ off,bc E s.ae y≠.lp d off:=fun y hy off hv=>by
    obtain ⟨e',rfl,hv⟩:=Lq hv
    exact qZ e' (mh hy) off hv
   have core:∀ {pre:aT} {preB:cm} {G:List GO},gT E s oi (s.eY pre preB G) →
     (Ea E f ops cQ [] i ((pg s d cs).eY pre preB G)∧fq E f ops cQ [] K n ((listed.setIfInBounds j true).setIfInBounds i true) ((pg s d cs).eY pre preB G)) →
     Ea E f ops cQ [] i (s.eY pre preB G)∧fq E f ops cQ [] K (n+1) (listed.setIfInBounds i true) (s.eY pre preB G):=by
    intro pre preB G HZ hk
    refine ⟨CS,?_⟩
    obtain ⟨o1,o2⟩:=CQ HZ
    have tC:∀ e' off,oi.dst≠some e'∨lk (s.eY pre preB G).ae e'=.lp d off→lk (s.eY pre preB G).ae e'=.lp d off→lk s.ae e'=.lp d off:=by
     intro e' off _ hv
     have hv:lk (pre++s.ae) e'=.lp d off:=hv
     rcases o1 with rfl | ⟨d',x,Cy,hp,H3⟩
     ·exact hv
     ·have su:∀ off,x≠.lp d off:=fun off c=>by
       rcases H3 d off c with ⟨y,hy,fB,ho⟩ | ⟨_,h⟩
       ·exact D9 y hy fB ho
       ·exact FK (by rw [Cy,h])
      by_cases c2:d'=e'
      ·subst c2
       rcases hp with rfl | rfl
       ·simp only [List.cons_append,List.nil_append,aw] at hv; exact absurd hv (su off)
       ·simp only [List.cons_append,List.nil_append,aw] at hv; exact absurd hv (su off)
      ·rcases hp with rfl | rfl
       ·simp only [List.cons_append,List.nil_append] at hv; rwa [aG c2] at hv
       ·simp only [List.cons_append,List.nil_append] at hv
        rw [aG c2,iK] at hv
        cases hl:lk s.ae e' with
        | lp k fB=>
         rw [hl] at hv
         simp only at hv
         cases hb:Nat.beq k d' with
         | true=>rw [hb] at hv; cases hv
         | false=>rw [hb] at hv; exact hv
        | v a=>rw [hl] at hv; cases hv
        | none=>rw [hl] at hv; cases hv
    refine ih (listed.setIfInBounds i true) _ _ (jb.add hA hi) ?_ (ready_mono hr (Ne.symm e)) (CH (s.eY pre preB G) rfl ?_) ?_
    ·intro k ok iY RT Pf RU
     have RV:listed.getD k true=false:=by
      by_cases e':i=k
      ·subst e'; exact FL
      ·rw [getD_set_ne true e'] at Pf; exact Pf
     obtain ⟨q1,q2⟩:=jR k ok iY RT RV RU
     exact ⟨q1,fun e' Hs off hv=>q2 e' Hs off (tC e' off (.inr hv) hv)⟩
    ·intro y hy v hv
     cases y with
     | tmp e'=>
      have Cy:oi.dst≠some e':=fun c=>tN e' c (mh hy)
      have hv:lk s.ae e'=.v v:=hv
      show lk (pre++s.ae) e'=.v v
      rcases o1 with rfl | ⟨d',x,Li,hp,_⟩
      ·exact hv
      ·have c2:d'≠e':=fun c=>Cy (by rw [Li,c])
       rcases hp with rfl | rfl
       ·simp only [List.cons_append,List.nil_append]; rw [aG c2]; exact hv
       ·simp only [List.cons_append,List.nil_append]
        rw [aG c2,um (fun off=>by rw [hv]; intro c; cases c)]; exact hv
     | const _=>exact hv
     | global _=>exact hv
     | func _=>exact hv
    ·rw [Array.setIfInBounds_comm _ _ e]
     exact gE Hr hK _ _ _ _ (D8 cs HZ FK D9) hk.2
   have xT:∀ e'∈oi.looksAt ops,lk (pg s d cs).ae e'=lk s.ae e':=fun e' Hs=>by
    have c1:d≠e':=fun c=>HO d CP (c ▸ Hs)
    show lk (.put d (.lp d 0) :: .kill d :: s.ae) e'=_
    rw [aG c1,um (qZ e' Hs)]
   have Bb:∀ k off,(∃ y∈oi.op.operands,bc E (pg s d cs).ae y=.lp k off)→de (pg s d cs).boxes k=de s.boxes k:=by
    rintro k off ⟨y,hy,hv⟩
    rw [jW xT y hy] at hv
    have Hi:d≠k:=fun c=>D9 y hy off (by rw [c]; exact hv)
    show de ((d,cs) :: s.boxes) k=de s.boxes k
    simp only [de]
    cases hb:Nat.beq d k with
    | true=>exact absurd (Nat.eq_of_beq_eq_true hb) Hi
    | false=>rfl
   rw [fI (fun s t e h=>⟨nV Hr s t e h.1,gE Hr hK _ _ s t e h.2⟩)]
   rcases (fI QP).1 hG with ⟨h1,h2⟩ | ⟨h1,h2⟩
   ·exact .inl ⟨by rw [← jJ xT]; exact h1,BI (s:=pg s d cs) (t:=s) rfl rfl Bb (jW xT) h2 fun pre preB G hO hk=>core hO hk⟩
   ·refine .inr ⟨by rw [← jJ xT]; exact h1,?_⟩
    obtain ⟨pre,preB,G,p1,p2,p3,p4⟩:=bq.put (s:=pg s d cs) (t:=s) (al:=bB oi.op) (w:=false) rfl rfl oi.dst (.v fA)
    rw [p3] at h2
    have hO:gT E s oi (s.put oi.dst (.v fA)):=jX rfl rfl _
    rw [p4] at hO ⊢
    exact core hO h2
end
inductive DT where
 | done
 | take (j:Nat) (C:List Nat) (t:DT)
 | br (i:Nat) (re C:List Nat) (t:DT) (more:DT)
 | stop
 | al (j:Nat) (W:List Nat) (t:DT)
structure ml where
 dst:Option Tmp
 lo:List Tmp
 pr:List Nat
 n:Bool
 r:Bool
 a:Bool
def CT (d:Nat) (s:aT):List Nat→Bool
 | []=>true
 | e :: l=>(match lk s e with
  | .lp k _=>!Nat.beq k d
  | _=>true)&&CT d s l
def Ls (E:Env) (f:FuncId) (o:Oper) (W:List Nat) (s:St):Bool:=match o.guard,o.dst with
 | none,some d=>!E.vA f d&&CT d s.ae W
 | _,_=>false
def je (x:Nat):List Nat→Bool
 | []=>false
 | y :: l=>Nat.beq x y || je x l
def nW:List Edge→List Nat
 | []=>[]
 | e :: l=>bif Region.binds .any e then e.on :: nW l else nW l
def jY (ops:Array Oper) (o:Oper):ml:=⟨o.dst,o.looksAt ops,nW o.after.toList,qI o.op,Ln o.op,bB o.op⟩
def xU {α:Type} (n:Nat) (K:Nat→α):α:=match n with
 | 0=>K 0
 | m+1=>K (Nat.succ m)
def wP {α:Type}:List Nat→(List Nat→α)→α
 | [],K=>K []
 | a :: l,K=>xU a fun a=>wP l fun l=>K (a :: l)
def Lt {α:Type} (i:ml) (K:ml→α):α:=match i with
 | ⟨d,lo,pr,n,r,a⟩=>wP lo fun lo=>wP pr fun pr=>(match d with
  | none=>(fun (K:Option Tmp→α)=>K none)
  | some d=>(fun (K:Option Tmp→α)=>xU d fun d=>K (some d))) fun d=>(bif n then (fun (K:Bool→α)=>K true) else fun K=>K false) fun n=>
   (bif r then (fun (K:Bool→α)=>K true) else fun K=>K false) fun r=>(bif a then (fun (K:Bool→α)=>K true) else fun K=>K false) fun a=>K ⟨d,lo,pr,n,r,a⟩
def CU {α:Type}:List ml→(List ml→α)→α
 | [],K=>K []
 | i :: l,K=>Lt i fun i=>CU l fun l=>K (i :: l)
def rn (x y:ml):Bool:=
 (match x.dst with
 | some d=>!je d y.lo&&(match y.dst with | some e=>!Nat.beq e d | none=>true)
 | none=>true) &&
 (match y.dst with
 | some d=>!je d x.lo
 | none=>true)
def zN (j:Nat) (x:ml) (cf:List Nat):Nat→List ml→Bool
 | _,[]=>true
 | i,y :: l=>(Nat.beq i j || je j y.pr || je i cf || rn x y)&&zN j x cf (i+1) l
def zO (I:List ml):Nat→List ml→List (List Nat)→Bool
 | _,[],_=>true
 | j,x :: l,c :: cs=>(!x.n || zN j x c 0 I)&&zO I (j+1) l cs
 | _,_,_=>false
def uo (cQ:Nat→List Nat):Nat→List ml→Bool
 | _,[]=>true
 | i,x :: l=>(cQ i).all (fun a=>x.pr.any fun e=>Nat.beq e a || je a (cQ e))&&uo cQ (i+1) l
def mm (L:Nat):Nat→List ml→List Nat
 | _,[]=>[]
 | i,x :: l=>bif !L.testBit i&&x.pr.all (fun e=>L.testBit e) then i :: mm L (i+1) l else mm L (i+1) l
def nX (x y:ml):Bool:=y.a || (x.r&&!y.n)
def nY (cQ:Nat→List Nat) (L k:Nat) (x:ml):Nat→List ml→Bool
 | _,[]=>true
 | i,y :: l=>(L.testBit i || !nX x y || je k (cQ i))&&nY cQ L k x (i+1) l
def sW (I:List ml) (cQ:Nat→List Nat) (L:Nat) (C C':List Nat):Bool:=C.all fun k=>je k C' || match nth I k with
 | none=>false
 | some x=>nY cQ L k x 0 I
def JM (I:List ml) (cQ:Nat→List Nat) (C re:List Nat) (i:Nat) (y:ml):Bool:=C.all fun k=>je k re || match nth I k with
 | none=>false
 | some x=>!nX x y || je k (cQ i)
def CV (cQ:Nat→List Nat) (L:Nat) (W:List Nat) (j:Nat) (x:ml):Nat→List ml→Bool
 | _,[]=>true
 | i,y :: l=>(Nat.beq i j || L.testBit i || je j (cQ i) || (rn x y&&y.lo.all fun e=>je e W))&&CV cQ L W j x (i+1) l
def CW (I:List ml) (C:List Nat):Bool:=C.all fun k=>match nth I k with
 | some x=>x.n
 | none=>false
def kw (I:List ml) (N:Nat) (cQ:Nat→List Nat) (cf:List (List Nat)):DT→Nat→List Nat→Nat→Option (List Nat)→Bool
 | .done,_,_,L,none=>Nat.beq L N
 | .take j C' t,n+1,C,L,none=>match nth I j,nth cf j with
  | some x,some c=>match x.dst with
   | none=>false
   | some d=>x.n&&!je d x.lo&&(C.all fun k=>match nth I k with
     | none=>false
     | some y=>!je d y.lo&&(match y.dst with | some e=>!Nat.beq e d | none=>true)) &&
    c.all (fun i=>L.testBit i)&&!L.testBit j&&x.pr.all (fun e=>L.testBit e)&&CW I C' &&
    xU (L ||| 2 ^ j) fun L'=>sW I cQ L' (j :: C) C'&&kw I N cQ cf t n C' L' none
  | _,_=>false
 | .br i re C' t more,n+1,C,L,left=>match nth I i with
  | none=>false
  | some y=>(match left with
   | none=>fun (K:List Nat→Bool)=>wP (mm L 0 I) K
   | some l=>fun K=>K l) fun l=>
    JM I cQ C re i y&&CW I C'&&je i l&&(xU (L ||| 2 ^ i) fun L'=>sW I cQ L' C C'&&kw I N cQ cf t n C' L' none) &&
     kw I N cQ cf more (n+1) C L (some (l.filter fun k=>!Nat.beq k i))
 | .stop,_,_,_,some l=>l.isEmpty
 | .al j W t,n+1,C,L,none=>match nth I j with
  | some x=>match x.dst with
   | none=>false
   | some _=>C.isEmpty&&x.a&&!L.testBit j&&x.pr.all (fun e=>L.testBit e)&&CV cQ L W j x 0 I&&xU (L ||| 2 ^ j) fun L'=>kw I N cQ cf t n [] L' none
  | none=>false
 | _,_,_,_,_=>false
def wQ (E:Env) (f:FuncId) (ops:List Oper):List Nat→St→Prop
 | [],_=>True
 | k :: l,s=>(match nth ops k with
  | some ok=>BD E f ops ok s
  | none=>True)∧wQ E f ops l s
def qJ (E:Env) (f:FuncId) (ops:List Oper):DT→(St→Prop)→St→Prop
 | .done,K,s=>K s
 | .take j _ t,K,s=>match nth ops j with
  | some oj=>bL E f ops oj (qJ E f ops t K) s
  | none=>False
 | .br i re _ t more,K,s=>(match nth ops i with
  | some oi=>bL E f ops oi (fun s'=>wQ E f ops re s'∧qJ E f ops t K s') s
  | none=>False)∧qJ E f ops more K s
 | .stop,_,_=>True
 | .al j W t,K,s=>match nth ops j with
  | some oj=>Ls E f oj W s=true∧bL E f ops oj (qJ E f ops t K) s
  | none=>False
def FO (l:List (List Nat)) (i:Nat):List Nat:=match nth l i with
 | some a=>a
 | none=>[]
section
variable {E:Env} {s t:St} {f:FuncId} {ops:Array Oper} {K:St→Prop} {cQ:Nat→List Nat}
theorem eB {x:Nat}:∀ {l:List Nat},je x l=true↔x∈l
 | []=>by simp [je]
 | y :: l=>by simp [je,eB (l:=l)]
theorem mn {α:Type} (n:Nat) (K:Nat→α):xU n K=K n:=by cases n <;> rfl
theorem uq {α:Type}:∀ (l:List Nat) (K:List Nat→α),wP l K=K l
 | [],_=>rfl
 | a :: l,K=>by simp only [wP,mn]; rw [uq]
theorem H4 {α:Type} (i:ml) (K:ml→α):Lt i K=K i:=by
 obtain ⟨d,lo,pr,n,r,a⟩:=i
 cases d <;> cases n <;> cases r <;> cases a <;> simp [Lt,uq,mn]
theorem zP {α:Type}:∀ (l:List ml) (K:List ml→α),CU l K=K l
 | [],_=>rfl
 | a :: l,K=>by simp only [CU,H4]; rw [zP]
def jZ (ops:Array Oper):List ml:=ops.toList.map (jY ops)
theorem qj {k:Nat} {x:ml} (h:nth (jZ ops) k=some x):∃ o,ops[k]?=some o∧x=jY ops o:=by
 rw [aR,jZ,List.getElem?_map,Array.getElem?_toList] at h
 cases ho:ops[k]? with
 | none=>rw [ho] at h; cases h
 | some o=>rw [ho] at h; exact ⟨o,rfl,by simpa using h.symm⟩
theorem ik {e:Nat}:∀ {l:List Edge},e∈nW l↔∃ ed∈l,Region.binds .any ed=true∧ed.on=e
 | []=>by simp [nW]
 | x :: l=>by
  unfold nW
  cases hb:Region.binds .any x with
  | true=>
   simp only [cond_true,List.mem_cons,ik (l:=l),exists_eq_or_imp,hb,true_and]
   constructor
   ·rintro (h | h)
    ·exact .inl h.symm
    ·exact .inr h
   ·rintro (h | h)
    ·exact .inl h.symm
    ·exact .inr h
  | false=>simp only [cond_false,List.mem_cons,ik (l:=l),exists_eq_or_imp,hb,false_and,false_or,Bool.false_eq_true]
theorem wR {x y:Oper} (h:rn (jY ops x) (jY ops y)=true):x.apart ops y=true:=by
 have hm:∀ (d:Nat) (l:List Nat),je d l=false→l.contains d=false:=fun d l h=>by
  cases hc:l.contains d with
  | false=>rfl
  | true=>rw [eB.2 (by simpa using hc)] at h; cases h
 unfold rn at h
 unfold Oper.apart
 simp only [jY,Bool.and_eq_true] at h ⊢
 refine ⟨?_,?_⟩
 ·cases hx:x.dst with
  | none=>rfl
  | some d=>
   rw [hx] at h
   simp only [Bool.and_eq_true,Bool.not_eq_true'] at h ⊢
   refine ⟨hm _ _ h.1.1,?_⟩
   have h2:=h.1.2
   cases hy:y.dst with
   | none=>rfl
   | some e=>
    rw [hy] at h2
    simp only [Bool.not_eq_true'] at h2
    have:e≠d:=fun k=>by rw [k,pJ] at h2; cases h2
    simpa using this
 ·cases hy:y.dst with
  | none=>rfl
  | some d=>
   rw [hy] at h
   simp only [Bool.not_eq_true'] at h ⊢
   exact hm _ _ h.2
def zQ (ops:Array Oper) (L:Nat) (listed:Array Bool):Prop:=listed.size=ops.size∧∀ i,i < ops.size→listed[i]?=some (L.testBit i)
theorem zQ.add {L:Nat} {listed:Array Bool} (h:zQ ops L listed) (j:Nat):zQ ops (L ||| 2 ^ j) (listed.setIfInBounds j true):=by
 refine ⟨by simp [h.1],fun i hi=>?_⟩
 rw [Nat.testBit_or,Nat.testBit_two_pow]
 by_cases e:j=i
 ·subst e
  rw [Array.getElem?_setIfInBounds_self_of_lt (by rw [h.1]; exact hi)]
  simp
 ·rw [Array.getElem?_setIfInBounds_ne e,h.2 i hi]
  simp [e]
theorem zQ.zR {L:Nat} {listed:Array Bool} (h:zQ ops L listed) {i:Nat} (hi:i < ops.size) (b:Bool):listed.getD i b=L.testBit i:=by
 rw [Array.getD_eq_getD_getElem?,h.2 i hi]; rfl
theorem ph {L:Nat} {listed:Array Bool} (h:zQ ops L listed) {j:Nat} {o:Oper} (ho:ops[j]?=some o) (h1:L.testBit j=false) (h2:((jY ops o).pr.all fun e=>L.testBit e)=true)
  (bK:∀ e∈o.after,Region.binds .any e=true→e.on < ops.size):j∈Region.ready .any ops listed:=by
 have hj:j < ops.size:=(Array.getElem?_eq_some_iff.1 ho).1
 refine mem_ready.2 ⟨by rw [h.zR hj]; exact h1,o,ho,fun e he hb=>?_⟩
 rw [h.zR (bK e he hb)]
 exact List.all_eq_true.1 h2 e.on (ik.2 ⟨e,by simpa using he,hb,rfl⟩)
def Lu (n:Nat) (I:List ml):Bool:=I.all fun x=>x.pr.all fun e=>Nat.blt e n
theorem gj {k:Nat} {o:Oper} (h:ops[k]?=some o):nth (jZ ops) k=some (jY ops o):=by
 rw [aR,jZ,List.getElem?_map,Array.getElem?_toList,h]; rfl
theorem j3 {k:Nat} {o:Oper} (h:ops[k]?=some o):(jZ ops)[k]?=some (jY ops o):=by
 rw [← aR]; exact gj h
theorem nZ (h:Lu ops.size (jZ ops)=true) {k:Nat} {o:Oper} (ho:ops[k]?=some o):∀ e∈o.after,Region.binds .any e=true→e.on < ops.size:=fun e he hb=>by
 have h1:=List.all_eq_true.1 h (jY ops o) (List.mem_of_getElem? (j3 ho))
 have h2:=List.all_eq_true.1 h1 e.on (ik.2 ⟨e,by simpa using he,hb,rfl⟩)
 exact Nat.le_of_ble_eq_true h2
theorem ur {j:Nat} {x:ml} {c:List Nat}:∀ {l:List ml} {i:Nat},zN j x c i l=true→∀ k y,l[k]?=some y→(Nat.beq (i+k) j || je j y.pr || je (i+k) c || rn x y)=true
 | [],_,_,k,y,hk=>by simp at hk
 | z :: l,i,h,k,y,hk=>by
  unfold zN at h
  rw [Bool.and_eq_true] at h
  cases k with
  | zero=>simp at hk; subst hk; exact h.1
  | succ k=>
   have:=ur h.2 k y (by simpa using hk)
   rw [show i+1+k=i+(k+1) by omega] at this
   exact this
theorem uu {I:List ml}:∀ {l:List ml} {j:Nat} {cs:List (List Nat)},zO I j l cs=true→∀ k x c,l[k]?=some x→cs[k]?=some c→x.n=true→zN (j+k) x c 0 I=true
 | [],_,_,_,k,x,c,hk,_,_=>by simp at hk
 | z :: l,j,[],_,k,x,c,_,hc,_=>by simp at hc
 | z :: l,j,d :: cs,h,k,x,c,hk,hc,hn=>by
  unfold zO at h
  rw [Bool.and_eq_true] at h
  cases k with
  | zero=>
   simp at hk hc
   subst hk hc
   have:=h.1
   rw [hn] at this
   simpa using this
  | succ k=>
   have:=uu h.2 k x c (by simpa using hk) (by simpa using hc) hn
   rw [show j+1+k=j+(k+1) by omega] at this
   exact this
theorem r7:∀ {l:List ml} {i:Nat},uo cQ i l=true→∀ k x,l[k]?=some x→∀ a∈cQ (i+k),∃ e∈x.pr,e=a∨a∈cQ e
 | [],_,_,k,x,hk=>by simp at hk
 | z :: l,i,h,k,x,hk=>by
  unfold uo at h
  rw [Bool.and_eq_true] at h
  cases k with
  | zero=>
   simp at hk
   subst hk
   intro a ha
   have h1:=List.all_eq_true.1 h.1 a ha
   obtain ⟨e,he,h2⟩:=List.any_eq_true.1 h1
   rw [Bool.or_eq_true] at h2
   refine ⟨e,he,?_⟩
   rcases h2 with h2 | h2
   ·exact .inl (Nat.eq_of_beq_eq_true h2)
   ·exact .inr (eB.1 h2)
  | succ k=>
   have:=r7 h.2 k x (by simpa using hk)
   rw [show i+1+k=i+(k+1) by omega] at this
   exact this
theorem BK (h:uo cQ 0 (jZ ops)=true):wO ops cQ:=fun i oi a hi ha=>by
 have h1:=r7 h i _ (j3 hi) a (by rw [Nat.zero_add]; exact ha)
 obtain ⟨e,he,h2⟩:=h1
 obtain ⟨ed,q1,q2,rfl⟩:=ik.1 he
 exact ⟨ed,by simpa using q1,q2,h2⟩
theorem nq {L:Nat}:∀ {l:List ml} {i k:Nat},k∈mm L i l↔∃ j x,k=i+j∧l[j]?=some x∧L.testBit k=false∧(x.pr.all fun e=>L.testBit e)=true
 | [],i,k=>by simp [mm]
 | z :: l,i,k=>by
  have ih:=nq (L:=L) (l:=l) (i:=i+1) (k:=k)
  have rest:(∃ j x,k=i+1+j∧l[j]?=some x∧L.testBit k=false∧(x.pr.all fun e=>L.testBit e)=true)↔∃ j x,k=i+(j+1)∧(z :: l)[j+1]?=some x∧L.testBit k=false∧(x.pr.all fun e=>L.testBit e)=true:=by
   constructor
   ·rintro ⟨j,x,h1,h2⟩; exact ⟨j,x,by omega,by simpa using h2⟩
   ·rintro ⟨j,x,h1,h2⟩; exact ⟨j,x,by omega,by simpa using h2⟩
  unfold mm
  cases hc:(!L.testBit i&&z.pr.all fun e=>L.testBit e) with
  | true=>
   simp only [cond_true,List.mem_cons,ih,rest]
   rw [Bool.and_eq_true,Bool.not_eq_true'] at hc
   constructor
   ·rintro (rfl | ⟨j,x,h⟩)
    ·exact ⟨0,z,rfl,rfl,hc⟩
    ·exact ⟨j+1,x,h⟩
   ·rintro ⟨j,x,h1,h2⟩
    cases j with
    | zero=>exact .inl h1
    | succ j=>exact .inr ⟨j,x,h1,h2⟩
  | false=>
   simp only [cond_false,ih,rest]
   constructor
   ·rintro ⟨j,x,h⟩; exact ⟨j+1,x,h⟩
   ·rintro ⟨j,x,h1,h2,h3,h4⟩
    cases j with
    | zero=>
     simp at h2 h1
     subst h1 h2
     rw [h3,h4] at hc
     cases hc
    | succ j=>exact ⟨j,x,h1,h2,h3,h4⟩
theorem nr {L k:Nat} {x:ml}:∀ {l:List ml} {i:Nat},nY cQ L k x i l=true→∀ j y,l[j]?=some y→L.testBit (i+j)=false→nX x y=true→k∈cQ (i+j)
 | [],_,_,j,y,hj=>by simp at hj
 | z :: l,i,h,j,y,hj=>by
  unfold nY at h
  rw [Bool.and_eq_true] at h
  cases j with
  | zero=>
   simp at hj
   subst hj
   intro h1 h2
   have h3:=h.1
   rw [Nat.add_zero] at h1
   rw [h1,h2] at h3
   exact eB.1 (by simpa using h3)
  | succ j=>
   have:=nr h.2 j y (by simpa using hj)
   rw [show i+1+j=i+(j+1) by omega] at this
   exact this
theorem r8 {L:Nat} {listed:Array Bool} (hM:zQ ops L listed) {C C':List Nat} (h:sW (jZ ops) cQ L C C'=true):∀ k∈C,k∈C'∨∀ i ok oi,ops[k]?=some ok→ops[i]?=some oi→listed.getD i true=false→iJ ok oi=true→k∈cQ i:=fun k hk=>by
 have h1:=List.all_eq_true.1 h k hk
 rw [Bool.or_eq_true] at h1
 rcases h1 with h1 | h1
 ·exact .inl (eB.1 h1)
 ·refine .inr fun i ok oi q1 q2 q3 q4=>?_
  rw [gj q1] at h1
  have hi:i < ops.size:=(Array.getElem?_eq_some_iff.1 q2).1
  have:=nr h1 i _ (j3 q2) (by rw [Nat.zero_add,← hM.zR hi]; exact q3) q4
  rw [Nat.zero_add] at this
  exact this
theorem wS {C:List Nat} (h:CW (jZ ops) C=true):NC ops C:=fun k hk ok eT=>by
 have:=List.all_eq_true.1 h k hk
 rw [gj eT] at this
 exact this
theorem uv {L j:Nat} {x:ml} {W:List Nat}:∀ {l:List ml} {i:Nat},CV cQ L W j x i l=true→∀ k y,l[k]?=some y→(Nat.beq (i+k) j || L.testBit (i+k) || je j (cQ (i+k)) || (rn x y&&y.lo.all fun e=>je e W))=true
 | [],_,_,k,y,hk=>by simp at hk
 | z :: l,i,h,k,y,hk=>by
  unfold CV at h
  rw [Bool.and_eq_true] at h
  cases k with
  | zero=>simp at hk; subst hk; exact h.1
  | succ k=>
   have:=uv h.2 k y (by simpa using hk)
   rw [show i+1+k=i+(k+1) by omega] at this
   exact this
theorem uw {d:Nat} {s:aT}:∀ {l:List Nat},CT d s l=true→∀ e∈l,∀ off,lk s e≠.lp d off
 | [],_,e,he,_=>by cases he
 | a :: l,h,e,he,off=>by
  unfold CT at h
  rw [Bool.and_eq_true] at h
  rcases List.mem_cons.1 he with rfl | he
  ·intro hv
   have h1:=h.1
   rw [hv] at h1
   simp only [pJ] at h1
   cases h1
  ·exact uw h.2 e he off
theorem nt {cf:List (List Nat)} (hA:wO ops cQ) (hP:Lu ops.size (jZ ops)=true) (hF:zO (jZ ops) 0 (jZ ops) cf=true) (hK:Inv K):∀ (T:DT) (n:Nat) (C:List Nat) (listed:Array Bool) (L:Nat),NC ops C→mj cQ listed→zQ ops L listed →
  (kw (jZ ops) (2 ^ ops.size - 1) cQ cf T n C L none=true→∀ s,qJ E f ops.toList T K s→fq E f ops cQ C K n listed s) ∧
  (∀ m l,n=m+1→kw (jZ ops) (2 ^ ops.size - 1) cQ cf T n C L (some l)=true→∀ s,qJ E f ops.toList T K s→∀ i∈l,i∈Region.ready .any ops listed→∀ oi,ops[i]?=some oi →
   bL E f ops.toList oi (fun s'=>Ea E f ops cQ C i s'∧fq E f ops cQ C K m (listed.setIfInBounds i true) s') s)
 | .done,n,C,listed,L,hC,jb,hM=>by
  refine ⟨fun h s hs=>?_,fun m l _ h=>by simp [kw] at h⟩
  have hL:L=2 ^ ops.size - 1:=Nat.eq_of_beq_eq_true (by simpa only [kw] using h)
  have hr:Region.ready .any ops listed=[]:=by
   apply List.eq_nil_iff_forall_not_mem.2
   intro j hj
   obtain ⟨h1,o,ho,_⟩:=mem_ready.1 hj
   have bK:j < ops.size:=(Array.getElem?_eq_some_iff.1 ho).1
   rw [hM.zR bK,hL,Nat.testBit_two_pow_sub_one] at h1
   simp [bK] at h1
  cases n with
  | zero=>exact ⟨hr,hs⟩
  | succ n=>exact ⟨fun _=>hs,fun i hi=>by rw [hr] at hi; simp at hi⟩
 | .stop,n,C,listed,L,hC,jb,hM=>by
  refine ⟨fun h=>by cases n <;> simp [kw] at h,fun m l e h s _ i hi=>?_⟩
  subst e
  have:l=[]:=by simpa [kw] using h
  rw [this] at hi
  simp at hi
 | .al j W T,0,C,listed,L,hC,jb,hM=>⟨fun h=>by simp [kw] at h,fun m l e=>by cases e⟩
 | .al j W T,n+1,C,listed,L,hC,jb,hM=>by
  refine ⟨fun h s hs=>?_,fun m l _ h=>by simp [kw] at h⟩
  unfold kw at h
  split at h
  ·rename_i x hx
   obtain ⟨oj,hj,rfl⟩:=qj hx
   split at h
   ·cases h
   ·rename_i d hd
    simp only [mn,Bool.and_eq_true] at h
    obtain ⟨⟨⟨⟨⟨RW,D5⟩,hbit⟩,Pg⟩,tA⟩,hT⟩:=h
    have RW:C=[]:=by simpa using RW
    subst RW
    have D5:bB oj.op=true:=D5
    have hd:oj.dst=some d:=hd
    have ux:j∈Region.ready .any ops listed:=ph hM hj (by simpa using hbit) Pg (nZ hP hj)
    obtain ⟨ih,_⟩:=nt hA hP hF hK T n [] (listed.setIfInBounds j true) (L ||| 2 ^ j) (fun k hk=>by cases hk) (jb.add hA ux) (hM.add j)
    unfold qJ at hs
    rw [aR,Array.getElem?_toList,hj] at hs
    simp only at hs
    obtain ⟨eT,hs⟩:=hs
    unfold Ls at eT
    split at eT
    ·rename_i _ d' hg Cy
     rw [hd] at Cy
     cases Cy
     rw [Bool.and_eq_true] at eT
     have Lr:E.vA f d=false:=by simpa using eT.1
     have KR:bL E f ops.toList oj (fq E f ops cQ [] K n (listed.setIfInBounds j true)) s:=bM hs fun s' h'=>ih hT s' h'
     unfold bL at KR
     rw [hg] at KR
     obtain ⟨s1,q1,q2⟩:=(CR D5).1 KR
     refine FN hA hK hj hg hd D5 Lr n listed s s1 jb (fun i oi hi cr FL qZ=>?_) ux q1 q2
     have jS:=uv tA i _ (j3 hi)
     rw [Nat.zero_add] at jS
     simp only [Bool.or_eq_true] at jS
     have Lv:i < ops.size:=(Array.getElem?_eq_some_iff.1 hi).1
     rcases jS with ((h1 | h1) | h1) | h1
     ·exact absurd (Nat.eq_of_beq_eq_true h1) cr
     ·rw [hM.zR Lv,h1] at FL; cases FL
     ·exact absurd (eB.1 h1) qZ
     ·rw [Bool.and_eq_true] at h1
      exact ⟨wR h1.1,fun e he off=>uw eT.2 e (eB.1 (List.all_eq_true.1 h1.2 e he)) off⟩
    ·cases eT
  ·cases h
 | .take j C' T,0,C,listed,L,hC,jb,hM=>⟨fun h=>by simp [kw] at h,fun m l e=>by cases e⟩
 | .take j C' T,n+1,C,listed,L,hC,jb,hM=>by
  refine ⟨fun h s hs=>?_,fun m l _ h=>by simp [kw] at h⟩
  unfold kw at h
  split at h
  ·rename_i x c hx hc
   obtain ⟨oj,hj,rfl⟩:=qj hx
   split at h
   ·cases h
   ·rename_i d hd
    simp only [mn,Bool.and_eq_true] at h
    obtain ⟨⟨⟨⟨⟨⟨⟨hN,zJ⟩,RS⟩,hcf⟩,hbit⟩,Pg⟩,qi⟩,Lw,hT⟩:=h
    have hN:qI oj.op=true:=hN
    have hd:oj.dst=some d:=hd
    have ux:j∈Region.ready .any ops listed:=ph hM hj (by simpa using hbit) Pg (nZ hP hj)
    have NV:∀ {d:Nat} {l:List Nat},(!je d l)=true→d∉l:=fun h hm=>by rw [eB.2 hm] at h; cases h
    have Lx:d∉oj.looksAt ops:=NV zJ
    have RX:∀ k∈C,∀ ok,ops[k]?=some ok→d∉ok.looksAt ops∧ok.dst≠some d:=fun k hk ok eT=>by
     have:=List.all_eq_true.1 RS k hk
     rw [gj eT] at this
     simp only [Bool.and_eq_true] at this
     refine ⟨NV this.1,fun e=>?_⟩
     have h2:=this.2
     simp only [jY,e,pJ] at h2
     cases h2
    have Hr:NC ops (j :: C):=fun k hk ok ho=>by
     rcases List.mem_cons.1 hk with rfl | hk
     ·rw [hj] at ho; cases ho; exact hN
     ·exact hC k hk ok ho
    have RY:=jb.add hA ux
    obtain ⟨ih,_⟩:=nt hA hP hF hK T n C' (listed.setIfInBounds j true) (L ||| 2 ^ j) (wS qi) RY (hM.add j)
    unfold qJ at hs
    rw [aR,Array.getElem?_toList,hj] at hs
    simp only at hs
    have KR:bL E f ops.toList oj (fq E f ops cQ (j :: C) K n (listed.setIfInBounds j true)) s:=bM hs fun s' h'=>mi n _ _ (r8 (hM.add j) Lw) (ih hT s' h')
    obtain ⟨x,su,hk⟩:=ui hN (gE Hr hK _ _) KR
    rw [hd] at hk
    refine BJ hA hC hK hj hN hd Lx RX n listed s x jb (fun i oi hi cr FL qZ=>?_) ux su hk
    have tA:=uu hF j _ c (j3 hj) (by rw [← aR]; exact hc) hN
    have jS:=ur tA i _ (j3 hi)
    rw [Nat.zero_add,Nat.zero_add] at jS
    simp only [Bool.or_eq_true] at jS
    have Lv:i < ops.size:=(Array.getElem?_eq_some_iff.1 hi).1
    rcases jS with ((h1 | h1) | h1) | h1
    ·exact absurd (Nat.eq_of_beq_eq_true h1) cr
    ·obtain ⟨e,q1,q2,q3⟩:=ik.1 (eB.1 h1)
     exact absurd q3 (qZ e (by simpa using q1) q2)
    ·have:=List.all_eq_true.1 hcf i (eB.1 h1)
     rw [hM.zR Lv,this] at FL
     cases FL
    ·exact wR h1
  ·cases h
 | .br i re C' T more,0,C,listed,L,hC,jb,hM=>⟨fun h=>by simp [kw] at h,fun m l e=>by cases e⟩
 | .br i re C' T more,n+1,C,listed,L,hC,jb,hM=>by
  have main:∀ left l,(match left with | none=>mm L 0 (jZ ops) | some l=>l)=l→kw (jZ ops) (2 ^ ops.size - 1) cQ cf (.br i re C' T more) (n+1) C L left=true→∀ s,qJ E f ops.toList (.br i re C' T more) K s→i∈l∧∀ k∈l,k∈Region.ready .any ops listed→∀ ok,ops[k]?=some ok →
    bL E f ops.toList ok (fun s'=>Ea E f ops cQ C k s'∧fq E f ops cQ C K n (listed.setIfInBounds k true) s') s:=by
   intro left l hl h s hs
   unfold kw at h
   split at h
   ·cases h
   ·rename_i y hy
    obtain ⟨oi,qh,rfl⟩:=qj hy
    have h:(JM (jZ ops) cQ C re i (jY ops oi)&&CW (jZ ops) C'&&je i l&&(sW (jZ ops) cQ (L ||| 2 ^ i) C C'&&kw (jZ ops) (2 ^ ops.size - 1) cQ cf T n C' (L ||| 2 ^ i) none) &&
     kw (jZ ops) (2 ^ ops.size - 1) cQ cf more (n+1) C L (some (l.filter fun k=>!Nat.beq k i)))=true:=by
     cases left with
     | none=>simp only at hl; subst hl; simp only [uq,mn] at h; exact h
     | some l'=>simp only at hl; subst hl; simp only [mn] at h; exact h
    simp only [Bool.and_eq_true] at h
    obtain ⟨⟨⟨⟨OQ,qi⟩,fy⟩,Lw,hT⟩,hmore⟩:=h
    unfold qJ at hs
    refine ⟨eB.1 fy,fun k hk QQ ok eT=>?_⟩
    by_cases e:k=i
    ·subst e
     rw [qh] at eT
     cases eT
     obtain ⟨ih,_⟩:=nt hA hP hF hK T n C' (listed.setIfInBounds k true) (L ||| 2 ^ k) (wS qi) (jb.add hA QQ) (hM.add k)
     have h1:=hs.1
     rw [aR,Array.getElem?_toList,qh] at h1
     refine bM h1 fun s' h'=>⟨fun c hc oc JL q1 q2 q3 q4=>?_,mi n _ _ (r8 (hM.add k) Lw) (ih hT s' h'.2)⟩
     rw [qh] at q2
     cases q2
     have AH:=List.all_eq_true.1 OQ c hc
     rw [gj q1] at AH
     have VI:nX (jY ops oc) (jY ops oi)=true:=q3
     simp only [VI,Bool.not_true,Bool.false_or,Bool.or_eq_true] at AH
     rcases AH with AH | AH
     ·have hm:c∈re:=eB.1 AH
      have:∀ (re:List Nat),c∈re→wQ E f ops.toList re s'→BD E f ops.toList oc s':=by
       intro re
       induction re with
       | nil=>intro hm; simp at hm
       | cons a re ihr=>
        intro hm ha
        rcases List.mem_cons.1 hm with rfl | hm
        ·have:=ha.1
         rw [aR,Array.getElem?_toList,q1] at this
         exact this
        ·exact ihr hm ha.2
      exact this re hm h'.1
     ·exact absurd (eB.1 AH) q4
    ·obtain ⟨_,ih⟩:=nt hA hP hF hK more (n+1) C listed L hC jb hM
     refine ih n _ rfl hmore s hs.2 k ?_ QQ ok eT
     rw [List.mem_filter]
     exact ⟨hk,by rw [lS e]; rfl⟩
  refine ⟨fun h s hs=>?_,fun m l e h s hs k hk QQ ok eT=>?_⟩
  ·obtain ⟨m1,m2⟩:=main none _ rfl h s hs
   have back:∀ k,k∈mm L 0 (jZ ops)→k∈Region.ready .any ops listed:=fun k hk=>by
    obtain ⟨j,x,q1,q2,q3,q4⟩:=nq.1 hk
    rw [Nat.zero_add] at q1
    subst q1
    rw [← aR] at q2
    obtain ⟨o,ho,rfl⟩:=qj q2
    exact ph hM ho q3 q4 (nZ hP ho)
   have Ph:∀ k,k∈Region.ready .any ops listed→k∈mm L 0 (jZ ops):=fun k hk=>by
    obtain ⟨h1,o,ho,qi⟩:=mem_ready.1 hk
    have bK:k < ops.size:=(Array.getElem?_eq_some_iff.1 ho).1
    refine nq.2 ⟨k,jY ops o,by omega,j3 ho,by rw [← hM.zR bK]; exact h1,List.all_eq_true.2 fun e he=>?_⟩
    obtain ⟨ed,q1,q2,rfl⟩:=ik.1 he
    have h2:=qi ed (by simpa using q1) q2
    rw [hM.zR (nZ hP ho ed (by simpa using q1) q2)] at h2
    exact h2
   refine ⟨fun h0=>?_,fun k hk ok eT=>m2 k (Ph k hk) hk ok eT⟩
   have:=back i m1
   rw [h0] at this
   simp at this
  ·cases e
   exact (main (some l) l rfl h s hs).2 k hk QQ ok eT
theorem uy {R:aj} {w:World} {β:Nat→Nat} {F:Fence} {Qc:Exit→Act→World→Prop} {C:List Nat} (hQ:∀ a' w',ni E R w β s K a' w'→Qc .normal a' w') :
  ∀ (n:Nat) (listed:Array Bool) (R1:aj) (w1:World) (β1:Nat→Nat) (s1:St) (a1:Act),aV E R1 w1 β1 s1 a1→Step R w β s.boxes R1 w1 β1 s1.boxes→s1.ro=s.ro→bn R1 s1.ro F →
   fq E f ops cQ C K n listed s1→wpAnyIn F 0 E.P .any ops Qc n listed a1 w1
 | 0,listed,R1,w1,β1,s1,a1,hr,jE,bA,_,ha=>⟨ha.1,hQ _ _ ⟨s1,R1,β1,ha.2,hr,jE,bA⟩⟩
 | n+1,listed,R1,w1,β1,s1,a1,hr,jE,bA,hf,ha=>by
  refine ⟨fun h0=>hQ _ _ ⟨s1,R1,β1,ha.1 h0,hr,jE,bA⟩,fun i hi=>?_⟩
  obtain ⟨_,o,ho,_⟩:=mem_ready.1 hi
  unfold wpOpIn
  simp only [ho]
  refine qc hr hf (ha.2 i hi o ho) _ ?_
  rintro a' w' ⟨s',R',β',q1,q2,q3,q4⟩
  exact uy hQ n _ R' w' β' s' a' q2 (jE.trans q3) (q4.trans bA) (by rw [q4]; exact hf.mono q3.ext) q1.2
theorem e9 {K':St→Prop} (hK:∀ s,K s→K' s):∀ (T:DT) (s:St),qJ E f ops.toList T K s→qJ E f ops.toList T K' s
 | .done,s,h=>hK s h
 | .stop,_,_=>trivial
 | .take j C T,s,h=>by
  unfold qJ at h ⊢
  split
  ·rename_i oj hj
   rw [hj] at h
   exact bM h fun s' h'=>e9 hK T s' h'
  ·rename_i hj
   rw [hj] at h
   exact h
 | .al j W T,s,h=>by
  unfold qJ at h ⊢
  split
  ·rename_i oj hj
   rw [hj] at h
   exact ⟨h.1,bM h.2 fun s' h'=>e9 hK T s' h'⟩
  ·rename_i hj
   rw [hj] at h
   exact h
 | .br i re C T more,s,h=>by
  unfold qJ at h ⊢
  refine ⟨?_,e9 hK more s h.2⟩
  have h:=h.1
  split
  ·rename_i oj hj
   rw [hj] at h
   exact bM h fun s' h'=>⟨h'.1,e9 hK T s' h'.2⟩
  ·rename_i hj
   rw [hj] at h
   exact h
structure aC where
 cQ:List (List Nat)
 cf:List (List Nat)
 T:DT
def BL (ops:Array Oper) (p:aC):Bool:=CU (ops.toList.map (jY ops)) fun I=>
 xU ops.size fun n=>xU (2 ^ n - 1) fun N=>uo (FO p.cQ) 0 I&&Lu n I&&zO I 0 I p.cf&&kw I N (FO p.cQ) p.cf p.T n [] 0 none
theorem aV.drawn {R:aj} {w:World} {β:Nat→Nat} {a:Act} (h:aV E R w β s a):aV E R { w with drawn:=w.drawn+1 } β s a∧Step R w β s.boxes R { w with drawn:=w.drawn+1 } β s.boxes:=by
 have e:Ext R w R { w with drawn:=w.drawn+1 }:=⟨fun _ _ h=>h,fun _ _ _=>rfl,fun _ ro h=>⟨ro,h,b9.refl ro⟩,fW.refl w⟩
 refine ⟨⟨⟨h.g.len,fun id go ro h1 h2=>(h.g.obj id go ro h1 h2).mono e (fun _ _=>rfl) (fun _ _ _ h=>h),h.g.inj,h.g.wf,fun g cs hg=>(h.g.dC g cs hg).mono e,Nat.le_succ_of_le h.g.lo⟩,?_,h.t.mono e,h.n,h.d⟩,?_⟩
 ·exact h.b.aW e (fun _ _ _=>rfl) (fun _ _ _ _ h=>h) (fun _ _ _ h=>h)
 ·exact ⟨e,rfl,rfl,rfl,Nat.le_refl _,fun _ _ _=>rfl,fun _ _ h=>h,fun _ _ h _ _=>h⟩
theorem eQ.draw {id:Nat} {p:aC} {Q:Exit→St→Prop} (eT:BL ops p=true) (h:qJ E f ops.toList p.T (Q .normal) s):eQ E (.region id ops true) Q s:=fun R w β a F hr hf=>by
 simp only [BL,zP,mn,Bool.and_eq_true] at eT
 obtain ⟨⟨⟨hA,hP⟩,hF⟩,hT⟩:=eT
 refine wpIn_region_any E.mixed ?_
 obtain ⟨q1,q2⟩:=hr.drawn
 have hK:Inv (fun s=>∃ u,nU u s∧Q .normal u):=fun s t e ⟨u,h1,h2⟩=>⟨u,h1.trans e,h2⟩
 have h':=e9 (K':=fun s=>∃ u,nU u s∧Q .normal u) (fun s h=>⟨s,nU.refl s,h⟩) p.T s h
 have jb:mj (FO p.cQ) (Array.replicate ops.size false):=fun i hi=>by
  rw [Array.getD_eq_getD_getElem?,Array.getElem?_replicate] at hi
  split at hi <;> cases hi
 have Ly:=(nt (E:=E) (f:=f) (BK hA) hP hF hK p.T ops.size [] (Array.replicate ops.size false) 0 (fun k hk=>by simp at hk) jb ⟨by simp,fun i hi=>by simp [hi]⟩).1 hT s h'
 refine uy (R:=R) (w:=w) (β:=β) (s:=s) (f:=f) (K:=fun s=>∃ u,nU u s∧Q .normal u) ?_ _ _ R _ β s a q1 q2 rfl hf Ly
 rintro a' w' ⟨s',R',β',⟨u,e,hu⟩,h2,h3,h4⟩
 exact ⟨u,R',β',hu,h2.eqv e.symm,h3.eqv rfl e.symm.b,e.ro.trans h4⟩
end
end Go.Am
