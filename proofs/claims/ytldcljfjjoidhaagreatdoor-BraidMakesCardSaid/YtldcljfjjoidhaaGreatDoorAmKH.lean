/- The abstract machine: regions whose order the tape draws,along a tree of choices that was checked. -/
import Derived.Test.YtldcljfjjoidhaaGreatDoorAmKG
set_option linter.all false
open Array renaming getElem?_eq_some_iff→aaB, getElem?_toList→aaO, getD_eq_getD_getElem?→abr, setIfInBounds_comm→abv
open Bool renaming and_eq_true→aad, or_eq_true→abt, not_eq_true'→abu
open Go.Region renaming ready→aao, binds→aaY
open List renaming all_eq_true→aau, cons_append→abn, mem_cons→abo, nil_append→abp, mem_cons_of_mem→abw
open Nat renaming eq_of_beq_eq_true→abi, beq→abj, zero_add→abq
namespace Go.Am
open Go
section
variable {E:Env} {s t:St} {f:FuncId} {ops:Array Oper} {o oj oi:Oper} {d:Tmp} {x:SV} {K K':St→Prop} {dY:Nat→List Nat} {C:List Nat}
def Ls (E:Env) (f:FuncId) (ops:Array Oper) (dY:Nat→List Nat) (C:List Nat) (i:Nat) (s:St):Prop:=
 ∀ j∈C,∀ oj oi,ops[j]?=some oj→ops[i]?=some oi→kF oj oi=true→j∉dY i→Ig E f ops.toList oj s
def NC (ops:Array Oper) (C:List Nat):Prop:=∀ j∈C,∀ oj,ops[j]?=some oj→vh oj.op=true
theorem rO {i:Nat} (hC:NC ops C):Inv (Ls E f ops dY C i):=fun _ _ e h j hj oj oi h1 h2 h3 h4=>Se (hC j hj oj h1) e (h j hj oj oi h1 h2 h3 h4)
def gO (E:Env) (f:FuncId) (ops:Array Oper) (dY:Nat→List Nat) (C:List Nat) (K:St→Prop):Nat→Array Bool→St→Prop
 |0,listed,s=>aao .any ops listed=[]∧K s
 |n+1,listed,s=>(aao .any ops listed=[]→K s) ∧
   ∀ i∈aao .any ops listed,∀ oi,ops[i]?=some oi→cA E f ops.toList oi (fun s'=>Ls E f ops dY C i s'∧gO E f ops dY C K n (listed.setIfInBounds i true) s') s
theorem jw (hC:NC ops C) (hK:Inv K):∀ n listed,Inv (gO E f ops dY C K n listed)
 |0,_=>fun s t e h=>⟨h.1,hK s t e h.2⟩
 |n+1,_=>fun s t e h=>⟨fun h0=>hK s t e (h.1 h0),fun i hi oi uv=>FC (fun s t e h=>⟨rO hC s t e h.1,jw hC hK n _ s t e h.2⟩) s t e (h.2 i hi oi uv)⟩
theorem pu {C':List Nat}:∀ n (listed:Array Bool) (s:St),
  (∀ k∈C',k∈C∨∀ i ok oi,ops[k]?=some ok→ops[i]?=some oi→listed.getD i true=false→kF ok oi=true→k∈dY i) →
  gO E f ops dY C K n listed s→gO E f ops dY C' K n listed s
 |0,_,_,_,h=>h
 |n+1,listed,s,hk,h=>⟨h.1,fun i hi oi uv=>cB (h.2 i hi oi uv) fun s' h'=>⟨fun k Yn ok WQ h1 h2 h3 h4=>by
   rcases hk k Yn with h5|h5
   ·exact h'.1 k h5 ok WQ h1 h2 h3 h4
   ·exact absurd (h5 i ok WQ h1 h2 (mem_ready.1 hi).1 h3) h4,pu n _ s' (fun k Yn=>by
   rcases hk k Yn with h5|h5
   ·exact .inl h5
   ·refine .inr fun i' ok WQ h1 h2 h3 h4=>h5 i' ok WQ h1 h2 ?_ h4
    by_cases e:i=i'
    ·subst e; exact (mem_ready.1 hi).1
    ·rw [getD_set_ne true e] at h3; exact h3) h'.2⟩⟩
def CG (ops:Array Oper) (dY:Nat→List Nat):Prop:=∀ i oi a,ops[i]?=some oi→a∈dY i→∃ e∈oi.after,aaY .any e=true∧(e.on=a∨a∈dY e.on)
def py (dY:Nat→List Nat) (listed:Array Bool):Prop:=∀ i,listed.getD i false=true→∀ a∈dY i,listed.getD a false=true
theorem py.ready {listed:Array Bool} (h:py dY listed) (ha:CG ops dY) {i:Nat} (hi:i∈aao .any ops listed):∀ a∈dY i,listed.getD a false=true:=fun a haa=>by
 obtain ⟨_,o,ho,qc⟩:=mem_ready.1 hi;obtain ⟨e,he,hb,h2⟩:=ha i o a ho haa;rcases h2 with rfl|h2
 ·exact qc e he hb
 ·exact h _ (qc e he hb) a h2
theorem li {listed:Array Bool} {i:Nat} (h:listed.getD i false=true):listed.getD i true=true:=by
 rw [abr] at *;cases hl:listed[i]? with
 |none=>rw [hl] at h; cases h
 |some b=>rw [hl] at h; exact h
theorem py.add {listed:Array Bool} (h:py dY listed) (ha:CG ops dY) {i:Nat} (hi:i∈aao .any ops listed):py dY (listed.setIfInBounds i true):=fun k hk a haa=>by
 by_cases e:i=k
 ·subst e;exact getD_set_true (h.ready ha hi a haa)
 ·rw [getD_set_ne false e] at hk;exact getD_set_true (h k hk a haa)
theorem Io (hA:CG ops dY) (hC:NC ops C) (hK:Inv K) {j:Nat} (hj:ops[j]?=some oj) (hN:vh oj.op=true) (JH:oj.dst=some d) (FE:d∉oj.looksAt ops)
  (hCd:∀ k∈C,∀ ok,ops[k]?=some ok→d∉ok.looksAt ops∧ok.dst≠some d):∀ n (listed:Array Bool) (s:St) (x:SV),py dY listed →
   (∀ i oi,ops[i]?=some oi→i≠j→listed.getD i true=false→(∀ e∈oi.after,aaY .any e=true→e.on≠j)→oj.apart ops oi=true) →
   j∈aao .any ops listed→zJ E f ops oj s x→gO E f ops dY (j :: C) K n (listed.setIfInBounds j true) (s.put (some d) x)→gO E f ops dY C K (n+1) listed s:=by
 have Rt:NC ops (j :: C):=fun k hk ok ho=>by
  rcases abo.1 hk with rfl|hk
  ·rw [hj] at ho; cases ho; exact hN
  ·exact hC k hk ok ho
 have self:∀ n (listed:Array Bool) (s:St) (x:SV),zJ E f ops oj s x→gO E f ops dY (j :: C) K n (listed.setIfInBounds j true) (s.put (some d) x)→∀ oi,ops[j]?=some oi →
   cA E f ops.toList oi (fun s'=>Ls E f ops dY C j s'∧gO E f ops dY C K n (listed.setIfInBounds j true) s') s:=fun n listed s x hx h oi uv=>by
  rw [hj] at uv;cases uv;refine zL hN (fun s t e h=>⟨rO hC s t e h.1,jw hC hK _ _ s t e h.2⟩) hx ?_;rw [JH];refine ⟨fun k _ ok WQ _ h2 h3 _=>?_,pu n _ _ (fun k hk=>.inl (abw _ hk)) h⟩;rw [hj] at h2;cases h2;simp [kF,FA hN,hN] at h3
 intro n
 induction n with
 |zero=>
  intro listed s x _ _ hr hx h;refine ⟨fun h0=>by rw [h0] at hr; simp at hr,fun i hi oi uv=>?_⟩;by_cases e:i=j
  ·subst e; exact self 0 listed s x hx h oi uv
  ·have:=ready_mono hi e;rw [h.1] at this;simp at this
 |succ n ih=>
  intro listed s x jN kD hr hx h;refine ⟨fun h0=>by rw [h0] at hr; simp at hr,fun i hi oi uv=>?_⟩;by_cases e:i=j
  ·subst e; exact self (n+1) listed s x hx h oi uv
  ·have Nv:=(mem_ready.1 hi).1;have Si:=(mem_ready.1 hr).1;have XR:∀ ed∈oi.after,aaY .any ed=true→ed.on≠j:=fun ed he hb nX=>by
    obtain ⟨_,o,ho,qc⟩:=mem_ready.1 hi;rw [uv] at ho;cases ho;have h1:=li (qc ed he hb);rw [nX,Si] at h1;cases h1
   have WO:=kD i oi uv e Nv XR;have hG:=h.2 i (ready_mono hi e) oi uv;have Nw:j∉dY i:=fun hm=>by
    have h1:=li (jN.ready hA hi j hm);rw [Si] at h1;cases h1
   have hKi:Inv (fun s'=>Ls E f ops dY (j :: C) i s'∧gO E f ops dY (j :: C) K n ((listed.setIfInBounds j true).setIfInBounds i true) s'):=
    fun s t e h=>⟨rO Rt s t e h.1,jw Rt hK _ _ s t e h.2⟩
   have Yo:∀ k ok,ops[k]?=some ok→k≠j→(listed.setIfInBounds i true).getD k true=false→(∀ e∈ok.after,aaY .any e=true→e.on≠j)→oj.apart ops ok=true:=fun k ok hk hkj hku vy=>by
    refine kD k ok hk hkj ?_ vy;by_cases e':i=k
    ·subst e'; exact Nv
    ·rw [getD_set_ne true e'] at hku; exact hku
   have core:∀ {pre:bk} {preB:dc} {G:List GO},Pre (b7 oi.op) oi.dst pre→(vh oi.op=true→preB=[]∧G=s.G) →
     (Ls E f ops dY (j :: C) i ((s.put (some d) x).gB pre preB G)∧gO E f ops dY (j :: C) K n ((listed.setIfInBounds j true).setIfInBounds i true) ((s.put (some d) x).gB pre preB G)) →
     Ls E f ops dY C i (s.gB pre preB G)∧gO E f ops dY C K (n+1) (listed.setIfInBounds i true) (s.gB pre preB G):=by
    intro pre preB G BQ hNi hk;obtain ⟨x',so,jf⟩:=Ln hN JH FE WO hKi hx BQ hNi hk (fun t' Ip hd=>Ip.1 j (List.mem_cons_self ..) oj oi hj uv hd Nw);refine ⟨fun k Yn ok WQ h1 h2 h3 h4=>?_,?_⟩
    ·obtain ⟨q1,q2⟩:=hCd k Yn ok h1;obtain ⟨b1,b2,b3,_⟩:=ia (s.gB pre preB G) (some d) x';exact Sd (hC k Yn ok h1) q1 q2 (fun e he=>yt _ _ _ he) (by rw [b1]) b2 b3 (jf.1 k (abw _ Yn) ok WQ h1 h2 h3 h4)
    ·refine ih (listed.setIfInBounds i true) _ x' (jN.add hA hi) Yo (ready_mono hr (Ne.symm e)) so ?_;rw [abv _ _ e];exact jf.2
   rw [hZ (fun s t e h=>⟨rO hC s t e h.1,jw hC hK _ _ s t e h.2⟩)];obtain ⟨M4,_,_⟩:=Oper.apart_spec WO;have yo:∀ e∈oi.looksAt ops,lk (s.put (some d) x).ab e=lk s.ab e:=fun e he=>yt s d x fun k=>M4 d JH (k ▸ he)
   obtain ⟨b1,b2,b3,b4,b5⟩:=ia s (some d) x;rcases (hZ hKi).1 hG with ⟨h1,h2⟩|⟨h1,h2⟩
   ·refine .inl ⟨by rw [← lR yo]; exact h1,vD b3 b2 (by rw [b1]) (mi yo) h2 fun pre preB G hp hNi hk=>core hp (fun hh=>?_) hk⟩;obtain ⟨q1,q2⟩:=hNi hh;exact ⟨q1,by rw [q2,b2]⟩
   ·refine .inr ⟨by rw [← lR yo]; exact h1,?_⟩;obtain ⟨pre,preB,G,p1,p2,p3,p4⟩:=b6.put (s:=s.put (some d) x) (t:=s) (al:=b7 oi.op) (w:=false) b3 b2 oi.dst (.v gW);obtain ⟨q1,q2,_⟩:=p2 rfl;rw [p3] at h2;rw [p4];exact core p1 (fun _=>⟨q1,by rw [q2,b2]⟩) h2
theorem JK {i:Nat} {s:St}:Ls E f ops dY [] i s:=fun j hj=>by cases hj
theorem Yp {y:Operand} {k off:Nat} (h:bQ E s.ab y=.lp k off):∃ e,y=.tmp e∧lk s.ab e=.lp k off:=by
 cases y with
 |tmp e=>exact ⟨e,rfl,h⟩
 |const v=>simp only [bQ] at h; split at h <;> cases h
 |global g=>simp only [bQ] at h; split at h <;> cases h
 |func g=>cases h
theorem Nx (hA:CG ops dY) (hK:Inv K) {j:Nat} (hj:ops[j]?=some oj) (hg:oj.guard=none) (JH:oj.dst=some d) (BR:b7 oj.op=true) (Yq:E.Dt f d=false):∀ n (listed:Array Bool) (s s1:St),py dY listed →
  (∀ i oi,ops[i]?=some oi→i≠j→listed.getD i true=false→j∉dY i→oj.apart ops oi=true∧∀ e∈oi.looksAt ops,∀ off,lk s.ab e≠.lp d off) →
  j∈aao .any ops listed→an E f s oj=some (true,s1)→gO E f ops dY [] K n (listed.setIfInBounds j true) s1→gO E f ops dY [] K (n+1) listed s:=by
 have Rt:NC ops []:=fun k hk=>by cases hk
 have self:∀ n (listed:Array Bool) (s s1:St),an E f s oj=some (true,s1)→gO E f ops dY [] K n (listed.setIfInBounds j true) s1→∀ oi,ops[j]?=some oi →
   cA E f ops.toList oi (fun s'=>Ls E f ops dY [] j s'∧gO E f ops dY [] K n (listed.setIfInBounds j true) s') s:=fun n listed s s1 hx h oi uv=>by
  rw [hj] at uv;cases uv;unfold cA;rw [hg];exact (JJ BR).2 ⟨s1,hx,JK,h⟩
 intro n
 induction n with
 |zero=>
  intro listed s s1 _ _ hr hx h;refine ⟨fun h0=>by rw [h0] at hr; simp at hr,fun i hi oi uv=>?_⟩;by_cases e:i=j
  ·subst e; exact self 0 listed s s1 hx h oi uv
  ·have:=ready_mono hi e;rw [h.1] at this;simp at this
 |succ n ih=>
  intro listed s s1 jN kD hr hx h;refine ⟨fun h0=>by rw [h0] at hr; simp at hr,fun i hi oi uv=>?_⟩;by_cases e:i=j
  ·subst e; exact self (n+1) listed s s1 hx h oi uv
  ·have Nv:=(mem_ready.1 hi).1;have Si:=(mem_ready.1 hr).1;have Nw:j∉dY i:=fun hm=>by
    have h1:=li (jN.ready hA hi j hm);rw [Si] at h1;cases h1
   obtain ⟨WO,vy⟩:=kD i oi uv e Nv Nw;obtain ⟨M4,cK,HL⟩:=Oper.apart_spec WO;have Nu:oi.dst≠some d:=cK d JH;obtain ⟨_,cs,rfl,Jz⟩:=Il BR JH Yq hx;have hG:=h.2 i (ready_mono hi e) oi uv;have hKi:Inv (fun s'=>Ls E f ops dY [] i s'∧gO E f ops dY [] K n ((listed.setIfInBounds j true).setIfInBounds i true) s'):=
    fun s t e h=>⟨rO Rt s t e h.1,jw Rt hK _ _ s t e h.2⟩
   have Lr:∀ y∈oi.op.operands,∀ off,bQ E s.ab y≠.lp d off:=fun y hy off hv=>by
    obtain ⟨e',rfl,hv⟩:=Yp hv;exact vy e' (pt hy) off hv
   have core:∀ {pre:bk} {preB:dc} {G:List GO},jP E s oi (s.gB pre preB G) →
     (Ls E f ops dY [] i ((s8 s d cs).gB pre preB G)∧gO E f ops dY [] K n ((listed.setIfInBounds j true).setIfInBounds i true) ((s8 s d cs).gB pre preB G)) →
     Ls E f ops dY [] i (s.gB pre preB G)∧gO E f ops dY [] K (n+1) (listed.setIfInBounds i true) (s.gB pre preB G):=by
    intro pre preB G Sh hk;refine ⟨JK,?_⟩;obtain ⟨o1,o2⟩:=JI Sh;have yo:∀ e' off,oi.dst≠some e'∨lk (s.gB pre preB G).ab e'=.lp d off→lk (s.gB pre preB G).ab e'=.lp d off→lk s.ab e'=.lp d off:=by
     intro e' off _ hv;have hv:lk (pre++s.ab) e'=.lp d off:=hv;rcases o1 with rfl|⟨d',x,Jo,hp,hxx⟩
     ·exact hv
     ·have so:∀ off,x≠.lp d off:=fun off c=>by
       rcases hxx d off c with ⟨y,hy,gX,ho⟩|⟨_,h⟩
       ·exact Lr y hy gX ho
       ·exact Nu (by rw [Jo,h])
      by_cases c2:d'=e'
      ·subst c2;rcases hp with rfl|rfl
       ·simp only [abn,abp,aC] at hv; exact absurd hv (so off)
       ·simp only [abn,abp,aC] at hv; exact absurd hv (so off)
      ·rcases hp with rfl|rfl
       ·simp only [abn,abp] at hv; rwa [aW c2] at hv
       ·simp only [abn,abp] at hv;rw [aW c2,kG] at hv;cases hl:lk s.ab e' with
        |lp k gX=>
         rw [hl] at hv;simp only at hv;cases hb:abj k d' with
         |true=>rw [hb] at hv; cases hv
         |false=>rw [hb] at hv; exact hv
        |v a=>rw [hl] at hv; cases hv
        |none=>rw [hl] at hv; cases hv
    refine ih (listed.setIfInBounds i true) _ _ (jN.add hA hi) ?_ (ready_mono hr (Ne.symm e)) (Jz (s.gB pre preB G) rfl ?_) ?_
    ·intro k ok jf hkj hku agK;have agL:listed.getD k true=false:=by
      by_cases e':i=k
      ·subst e'; exact Nv
      ·rw [getD_set_ne true e'] at hku; exact hku
     obtain ⟨q1,q2⟩:=kD k ok jf hkj agL agK;exact ⟨q1,fun e' he' off hv=>q2 e' he' off (yo e' off (.inr hv) hv)⟩
    ·intro y hy v hv;cases y with
     |tmp e'=>
      have Jo:oi.dst≠some e':=fun c=>HL e' c (pt hy)
      have hv:lk s.ab e'=.v v:=hv;show lk (pre++s.ab) e'=.v v;rcases o1 with rfl|⟨d',x,hd2,hp,_⟩
      ·exact hv
      ·have c2:d'≠e':=fun c=>Jo (by rw [hd2,c])
       rcases hp with rfl|rfl
       ·simp only [abn,abp]; rw [aW c2]; exact hv
       ·simp only [abn,abp];rw [aW c2,zN (fun off=>by rw [hv]; intro c; cases c)]; exact hv
     |const _=>exact hv
     |global _=>exact hv
     |func _=>exact hv
    ·rw [abv _ _ e];exact jw Rt hK _ _ _ _ (Lq cs Sh Nu Lr) hk.2
   have DR:∀ e'∈oi.looksAt ops,lk (s8 s d cs).ab e'=lk s.ab e':=fun e' he'=>by
    have c1:d≠e':=fun c=>M4 d JH (c ▸ he')
    show lk (.put d (.lp d 0) :: .kill d :: s.ab) e'=_;rw [aW c1,zN (vy e' he')]
   have HI:∀ k off,(∃ y∈oi.op.operands,bQ E (s8 s d cs).ab y=.lp k off)→eF (s8 s d cs).boxes k=eF s.boxes k:=by
    rintro k off ⟨y,hy,hv⟩;rw [mi DR y hy] at hv;have Rl:d≠k:=fun c=>Lr y hy off (by rw [c]; exact hv)
    show eF ((d,cs) :: s.boxes) k=eF s.boxes k;simp only [eF];cases hb:abj d k with
    |true=>exact absurd (abi hb) Rl
    |false=>rfl
   rw [hZ (fun s t e h=>⟨rO Rt s t e h.1,jw Rt hK _ _ s t e h.2⟩)];rcases (hZ hKi).1 hG with ⟨h1,h2⟩|⟨h1,h2⟩
   ·exact .inl ⟨by rw [← lR DR]; exact h1,Im (s:=s8 s d cs) (t:=s) rfl rfl HI (mi DR) h2 fun pre preB G hO hk=>core hO hk⟩
   ·refine .inr ⟨by rw [← lR DR]; exact h1,?_⟩;obtain ⟨pre,preB,G,p1,p2,p3,p4⟩:=b6.put (s:=s8 s d cs) (t:=s) (al:=b7 oi.op) (w:=false) rfl rfl oi.dst (.v gW);rw [p3] at h2;have hO:jP E s oi (s.put oi.dst (.v gW)):=nq rfl rfl _;rw [p4] at hO ⊢;exact core hO h2
end
inductive DT where
 |done
 |take (j:Nat) (C:List Nat) (t:DT)
 |br (i:Nat) (re C:List Nat) (t:DT) (more:DT)
 |stop
 |al (j:Nat) (W:List Nat) (t:DT)
structure pz where
 dst:Option Tmp
 lo:List Tmp
 pr:List Nat
 n:Bool
 r:Bool
 a:Bool
def JL (d:Nat) (s:bk):List Nat→Bool
 |[]=>true
 |e :: l=>(match lk s e with
  |.lp k _=>!abj k d
  |_=>true)&&JL d s l
def Yr (E:Env) (f:FuncId) (o:Oper) (W:List Nat) (s:St):Bool:=match o.guard,o.dst with
 |none,some d=>!E.Dt f d&&JL d s.ab W
 |_,_=>false
def lj (x:Nat):List Nat→Bool
 |[]=>false
 |y :: l=>abj x y || lj x l
def rP:List Edge→List Nat
 |[]=>[]
 |e :: l=>bif aaY .any e then e.on :: rP l else rP l
def mj (ops:Array Oper) (o:Oper):pz:=⟨o.dst,o.looksAt ops,rP o.after.toList,vh o.op,Ym o.op,b7 o.op⟩
def DS {α:Type} (n:Nat) (K:Nat→α):α:=match n with
 |0=>K 0
 |m+1=>K (Nat.succ m)
def CH {α:Type}:List Nat→(List Nat→α)→α
 |[],K=>K []
 |a :: l,K=>DS a fun a=>CH l fun l=>K (a :: l)
def Ys {α:Type} (i:pz) (K:pz→α):α:=match i with
 |⟨d,lo,pr,n,r,a⟩=>CH lo fun lo=>CH pr fun pr=>(match d with
  |none=>(fun (K:Option Tmp→α)=>K none)
  |some d=>(fun (K:Option Tmp→α)=>DS d fun d=>K (some d))) fun d=>(bif n then (fun (K:Bool→α)=>K true) else fun K=>K false) fun n=>
   (bif r then (fun (K:Bool→α)=>K true) else fun K=>K false) fun r=>(bif a then (fun (K:Bool→α)=>K true) else fun K=>K false) fun a=>K ⟨d,lo,pr,n,r,a⟩
def JM {α:Type}:List pz→(List pz→α)→α
 |[],K=>K []
 |i :: l,K=>Ys i fun i=>JM l fun l=>K (i :: l)
def vF (x y:pz):Bool:=
 (match x.dst with
 |some d=>!lj d y.lo&&(match y.dst with | some e=>!abj e d | none=>true)
 |none=>true) &&
 (match y.dst with
 |some d=>!lj d x.lo
 |none=>true)
def FG (j:Nat) (x:pz) (cf:List Nat):Nat→List pz→Bool
 |_,[]=>true
 |i,y :: l=>(abj i j || lj j y.pr || lj i cf || vF x y)&&FG j x cf (i+1) l
def FH (I:List pz):Nat→List pz→List (List Nat)→Bool
 |_,[],_=>true
 |j,x :: l,c :: cs=>(!x.n || FG j x c 0 I)&&FH I (j+1) l cs
 |_,_,_=>false
def zO (dY:Nat→List Nat):Nat→List pz→Bool
 |_,[]=>true
 |i,x :: l=>(dY i).all (fun a=>x.pr.any fun e=>abj e a || lj a (dY e))&&zO dY (i+1) l
def pA (L:Nat):Nat→List pz→List Nat
 |_,[]=>[]
 |i,x :: l=>bif !L.testBit i&&x.pr.all (fun e=>L.testBit e) then i :: pA L (i+1) l else pA L (i+1) l
def rQ (x y:pz):Bool:=y.a || (x.r&&!y.n)
def rR (dY:Nat→List Nat) (L k:Nat) (x:pz):Nat→List pz→Bool
 |_,[]=>true
 |i,y :: l=>(L.testBit i || !rQ x y || lj k (dY i))&&rR dY L k x (i+1) l
def yu (I:List pz) (dY:Nat→List Nat) (L:Nat) (C C':List Nat):Bool:=C.all fun k=>lj k C' || match nth I k with
 |none=>false
 |some x=>rR dY L k x 0 I
def WR (I:List pz) (dY:Nat→List Nat) (C re:List Nat) (i:Nat) (y:pz):Bool:=C.all fun k=>lj k re || match nth I k with
 |none=>false
 |some x=>!rQ x y || lj k (dY i)
def JN (dY:Nat→List Nat) (L:Nat) (W:List Nat) (j:Nat) (x:pz):Nat→List pz→Bool
 |_,[]=>true
 |i,y :: l=>(abj i j || L.testBit i || lj j (dY i) || (vF x y&&y.lo.all fun e=>lj e W))&&JN dY L W j x (i+1) l
def JO (I:List pz) (C:List Nat):Bool:=C.all fun k=>match nth I k with
 |some x=>x.n
 |none=>false
def mQ (I:List pz) (N:Nat) (dY:Nat→List Nat) (cf:List (List Nat)):DT→Nat→List Nat→Nat→Option (List Nat)→Bool
 |.done,_,_,L,none=>abj L N
 |.take j C' t,n+1,C,L,none=>match nth I j,nth cf j with
  |some x,some c=>match x.dst with
   |none=>false
   |some d=>x.n&&!lj d x.lo&&(C.all fun k=>match nth I k with
     |none=>false
     |some y=>!lj d y.lo&&(match y.dst with | some e=>!abj e d | none=>true)) &&
    c.all (fun i=>L.testBit i)&&!L.testBit j&&x.pr.all (fun e=>L.testBit e)&&JO I C' &&
    DS (L ||| 2 ^ j) fun L'=>yu I dY L' (j :: C) C'&&mQ I N dY cf t n C' L' none
  |_,_=>false
 |.br i re C' t more,n+1,C,L,left=>match nth I i with
  |none=>false
  |some y=>(match left with
   |none=>fun (K:List Nat→Bool)=>CH (pA L 0 I) K
   |some l=>fun K=>K l) fun l=>
    WR I dY C re i y&&JO I C'&&lj i l&&(DS (L ||| 2 ^ i) fun L'=>yu I dY L' C C'&&mQ I N dY cf t n C' L' none) &&
     mQ I N dY cf more (n+1) C L (some (l.filter fun k=>!abj k i))
 |.stop,_,_,_,some l=>l.isEmpty
 |.al j W t,n+1,C,L,none=>match nth I j with
  |some x=>match x.dst with
   |none=>false
   |some _=>C.isEmpty&&x.a&&!L.testBit j&&x.pr.all (fun e=>L.testBit e)&&JN dY L W j x 0 I&&DS (L ||| 2 ^ j) fun L'=>mQ I N dY cf t n [] L' none
  |none=>false
 |_,_,_,_,_=>false
def CI (E:Env) (f:FuncId) (ops:List Oper):List Nat→St→Prop
 |[],_=>True
 |k :: l,s=>(match nth ops k with
  |some ok=>Ig E f ops ok s
  |none=>True)∧CI E f ops l s
def vi (E:Env) (f:FuncId) (ops:List Oper):DT→(St→Prop)→St→Prop
 |.done,K,s=>K s
 |.take j _ t,K,s=>match nth ops j with
  |some oj=>cA E f ops oj (vi E f ops t K) s
  |none=>False
 |.br i re _ t more,K,s=>(match nth ops i with
  |some oi=>cA E f ops oi (fun s'=>CI E f ops re s'∧vi E f ops t K s') s
  |none=>False)∧vi E f ops more K s
 |.stop,_,_=>True
 |.al j W t,K,s=>match nth ops j with
  |some oj=>Yr E f oj W s=true∧cA E f ops oj (vi E f ops t K) s
  |none=>False
def Ny (l:List (List Nat)) (i:Nat):List Nat:=match nth l i with
 |some a=>a
 |none=>[]
section
variable {E:Env} {s t:St} {f:FuncId} {ops:Array Oper} {K:St→Prop} {dY:Nat→List Nat}
theorem ga {x:Nat}:∀ {l:List Nat},lj x l=true↔x∈l
 |[]=>by simp [lj]
 |y :: l=>by simp [lj,ga (l:=l)]
theorem pC {α:Type} (n:Nat) (K:Nat→α):DS n K=K n:=by cases n <;> rfl
theorem zP {α:Type}:∀ (l:List Nat) (K:List Nat→α),CH l K=K l
 |[],_=>rfl
 |a :: l,K=>by simp only [CH,pC]; rw [zP]
theorem Sj {α:Type} (i:pz) (K:pz→α):Ys i K=K i:=by
 obtain ⟨d,lo,pr,n,r,a⟩:=i;cases d <;> cases n <;> cases r <;> cases a <;> simp [Ys,zP,pC]
theorem FI {α:Type}:∀ (l:List pz) (K:List pz→α),JM l K=K l
 |[],_=>rfl
 |a :: l,K=>by simp only [JM,Sj]; rw [FI]
def mm (ops:Array Oper):List pz:=ops.toList.map (mj ops)
theorem uw {k:Nat} {x:pz} (h:nth (mm ops) k=some x):∃ o,ops[k]?=some o∧x=mj ops o:=by
 rw [bj,mm,List.getElem?_map,aaO] at h;cases ho:ops[k]? with
 |none=>rw [ho] at h; cases h
 |some o=>rw [ho] at h; exact ⟨o,rfl,by simpa using h.symm⟩
theorem kh {e:Nat}:∀ {l:List Edge},e∈rP l↔∃ ed∈l,aaY .any ed=true∧ed.on=e
 |[]=>by simp [rP]
 |x :: l=>by
  unfold rP;cases hb:aaY .any x with
  |true=>
   simp only [cond_true,abo,kh (l:=l),exists_eq_or_imp,hb,true_and];constructor
   ·rintro (h|h)
    ·exact .inl h.symm
    ·exact .inr h
   ·rintro (h|h)
    ·exact .inl h.symm
    ·exact .inr h
  |false=>simp only [cond_false,abo,kh (l:=l),exists_eq_or_imp,hb,false_and,false_or,Bool.false_eq_true]
theorem CJ {x y:Oper} (h:vF (mj ops x) (mj ops y)=true):x.apart ops y=true:=by
 have hm:∀ (d:Nat) (l:List Nat),lj d l=false→l.contains d=false:=fun d l h=>by
  cases hc:l.contains d with
  |false=>rfl
  |true=>rw [ga.2 (by simpa using hc)] at h; cases h
 unfold vF at h;unfold Oper.apart;simp only [mj,aad] at h ⊢;refine ⟨?_,?_⟩
 ·cases hx:x.dst with
  |none=>rfl
  |some d=>
   rw [hx] at h;simp only [aad,abu] at h ⊢;refine ⟨hm _ _ h.1.1,?_⟩;have h2:=h.1.2;cases hy:y.dst with
   |none=>rfl
   |some e=>
    rw [hy] at h2;simp only [abu] at h2;have:e≠d:=fun k=>by rw [k,tQ] at h2; cases h2
    simpa using this
 ·cases hy:y.dst with
  |none=>rfl
  |some d=>
   rw [hy] at h;simp only [abu] at h ⊢;exact hm _ _ h.2
def FJ (ops:Array Oper) (L:Nat) (listed:Array Bool):Prop:=listed.size=ops.size∧∀ i,i < ops.size→listed[i]?=some (L.testBit i)
theorem FJ.add {L:Nat} {listed:Array Bool} (h:FJ ops L listed) (j:Nat):FJ ops (L ||| 2 ^ j) (listed.setIfInBounds j true):=by
 refine ⟨by simp [h.1],fun i hi=>?_⟩;rw [Nat.testBit_or,Nat.testBit_two_pow];by_cases e:j=i
 ·subst e;rw [Array.getElem?_setIfInBounds_self_of_lt (by rw [h.1]; exact hi)];simp
 ·rw [Array.getElem?_setIfInBounds_ne e,h.2 i hi];simp [e]
theorem FJ.FK {L:Nat} {listed:Array Bool} (h:FJ ops L listed) {i:Nat} (hi:i < ops.size) (b:Bool):listed.getD i b=L.testBit i:=by
 rw [abr,h.2 i hi]; rfl
theorem s9 {L:Nat} {listed:Array Bool} (h:FJ ops L listed) {j:Nat} {o:Oper} (ho:ops[j]?=some o) (h1:L.testBit j=false) (h2:((mj ops o).pr.all fun e=>L.testBit e)=true)
  (bY:∀ e∈o.after,aaY .any e=true→e.on < ops.size):j∈aao .any ops listed:=by
 have hj:j < ops.size:=(aaB.1 ho).1;refine mem_ready.2 ⟨by rw [h.FK hj]; exact h1,o,ho,fun e he hb=>?_⟩;rw [h.FK (bY e he hb)];exact aau.1 h2 e.on (kh.2 ⟨e,by simpa using he,hb,rfl⟩)
def Yt (n:Nat) (I:List pz):Bool:=I.all fun x=>x.pr.all fun e=>Nat.blt e n
theorem iS {k:Nat} {o:Oper} (h:ops[k]?=some o):nth (mm ops) k=some (mj ops o):=by
 rw [bj,mm,List.getElem?_map,aaO,h]; rfl
theorem mn {k:Nat} {o:Oper} (h:ops[k]?=some o):(mm ops)[k]?=some (mj ops o):=by
 rw [← bj]; exact iS h
theorem rS (h:Yt ops.size (mm ops)=true) {k:Nat} {o:Oper} (ho:ops[k]?=some o):∀ e∈o.after,aaY .any e=true→e.on < ops.size:=fun e he hb=>by
 have h1:=aau.1 h (mj ops o) (List.mem_of_getElem? (mn ho));have h2:=aau.1 h1 e.on (kh.2 ⟨e,by simpa using he,hb,rfl⟩);exact Nat.le_of_ble_eq_true h2
theorem zQ {j:Nat} {x:pz} {c:List Nat}:∀ {l:List pz} {i:Nat},FG j x c i l=true→∀ k y,l[k]?=some y→(abj (i+k) j || lj j y.pr || lj (i+k) c || vF x y)=true
 |[],_,_,k,y,hk=>by simp at hk
 |z :: l,i,h,k,y,hk=>by
  unfold FG at h;rw [aad] at h;cases k with
  |zero=>simp at hk; subst hk; exact h.1
  |succ k=>
   have:=zQ h.2 k y (by simpa using hk);rw [show i+1+k=i+(k+1) by omega] at this;exact this
theorem zS {I:List pz}:∀ {l:List pz} {j:Nat} {cs:List (List Nat)},FH I j l cs=true→∀ k x c,l[k]?=some x→cs[k]?=some c→x.n=true→FG (j+k) x c 0 I=true
 |[],_,_,_,k,x,c,hk,_,_=>by simp at hk
 |z :: l,j,[],_,k,x,c,_,hc,_=>by simp at hc
 |z :: l,j,d :: cs,h,k,x,c,hk,hc,hn=>by
  unfold FH at h;rw [aad] at h;cases k with
  |zero=>
   simp at hk hc;subst hk hc;have:=h.1;rw [hn] at this;simpa using this
  |succ k=>
   have:=zS h.2 k x c (by simpa using hk) (by simpa using hc) hn;rw [show j+1+k=j+(k+1) by omega] at this;exact this
theorem xd:∀ {l:List pz} {i:Nat},zO dY i l=true→∀ k x,l[k]?=some x→∀ a∈dY (i+k),∃ e∈x.pr,e=a∨a∈dY e
 |[],_,_,k,x,hk=>by simp at hk
 |z :: l,i,h,k,x,hk=>by
  unfold zO at h;rw [aad] at h;cases k with
  |zero=>
   simp at hk;subst hk;intro a ha;have h1:=aau.1 h.1 a ha;obtain ⟨e,he,h2⟩:=List.any_eq_true.1 h1;rw [abt] at h2;refine ⟨e,he,?_⟩;rcases h2 with h2|h2
   ·exact .inl (abi h2)
   ·exact .inr (ga.1 h2)
  |succ k=>
   have:=xd h.2 k x (by simpa using hk);rw [show i+1+k=i+(k+1) by omega] at this;exact this
theorem Iq (h:zO dY 0 (mm ops)=true):CG ops dY:=fun i oi a hi ha=>by
 have h1:=xd h i _ (mn hi) a (by rw [abq]; exact ha);obtain ⟨e,he,h2⟩:=h1;obtain ⟨ed,q1,q2,rfl⟩:=kh.1 he;exact ⟨ed,by simpa using q1,q2,h2⟩
theorem qJ {L:Nat}:∀ {l:List pz} {i k:Nat},k∈pA L i l↔∃ j x,k=i+j∧l[j]?=some x∧L.testBit k=false∧(x.pr.all fun e=>L.testBit e)=true
 |[],i,k=>by simp [pA]
 |z :: l,i,k=>by
  have ih:=qJ (L:=L) (l:=l) (i:=i+1) (k:=k);have rest:(∃ j x,k=i+1+j∧l[j]?=some x∧L.testBit k=false∧(x.pr.all fun e=>L.testBit e)=true)↔∃ j x,k=i+(j+1)∧(z :: l)[j+1]?=some x∧L.testBit k=false∧(x.pr.all fun e=>L.testBit e)=true:=by
   constructor
   ·rintro ⟨j,x,h1,h2⟩; exact ⟨j,x,by omega,by simpa using h2⟩
   ·rintro ⟨j,x,h1,h2⟩; exact ⟨j,x,by omega,by simpa using h2⟩
  unfold pA;cases hc:(!L.testBit i&&z.pr.all fun e=>L.testBit e) with
  |true=>
   simp only [cond_true,abo,ih,rest];rw [aad,abu] at hc;constructor
   ·rintro (rfl|⟨j,x,h⟩)
    ·exact ⟨0,z,rfl,rfl,hc⟩
    ·exact ⟨j+1,x,h⟩
   ·rintro ⟨j,x,h1,h2⟩;cases j with
    |zero=>exact .inl h1
    |succ j=>exact .inr ⟨j,x,h1,h2⟩
  |false=>
   simp only [cond_false,ih,rest];constructor
   ·rintro ⟨j,x,h⟩; exact ⟨j+1,x,h⟩
   ·rintro ⟨j,x,h1,h2,h3,h4⟩;cases j with
    |zero=>
     simp at h2 h1;subst h1 h2;rw [h3,h4] at hc;cases hc
    |succ j=>exact ⟨j,x,h1,h2,h3,h4⟩
theorem qK {L k:Nat} {x:pz}:∀ {l:List pz} {i:Nat},rR dY L k x i l=true→∀ j y,l[j]?=some y→L.testBit (i+j)=false→rQ x y=true→k∈dY (i+j)
 |[],_,_,j,y,hj=>by simp at hj
 |z :: l,i,h,j,y,hj=>by
  unfold rR at h;rw [aad] at h;cases j with
  |zero=>
   simp at hj;subst hj;intro h1 h2;have h3:=h.1;rw [Nat.add_zero] at h1;rw [h1,h2] at h3;exact ga.1 (by simpa using h3)
  |succ j=>
   have:=qK h.2 j y (by simpa using hj);rw [show i+1+j=i+(j+1) by omega] at this;exact this
theorem xe {L:Nat} {listed:Array Bool} (hM:FJ ops L listed) {C C':List Nat} (h:yu (mm ops) dY L C C'=true):∀ k∈C,k∈C'∨∀ i ok oi,ops[k]?=some ok→ops[i]?=some oi→listed.getD i true=false→kF ok oi=true→k∈dY i:=fun k hk=>by
 have h1:=aau.1 h k hk;rw [abt] at h1;rcases h1 with h1|h1
 ·exact .inl (ga.1 h1)
 ·refine .inr fun i ok oi q1 q2 q3 q4=>?_
  rw [iS q1] at h1;have hi:i < ops.size:=(aaB.1 q2).1;have:=qK h1 i _ (mn q2) (by rw [abq,← hM.FK hi]; exact q3) q4;rw [abq] at this;exact this
theorem CK {C:List Nat} (h:JO (mm ops) C=true):NC ops C:=fun k hk ok dS=>by
 have:=aau.1 h k hk;rw [iS dS] at this;exact this
theorem zT {L j:Nat} {x:pz} {W:List Nat}:∀ {l:List pz} {i:Nat},JN dY L W j x i l=true→∀ k y,l[k]?=some y→(abj (i+k) j || L.testBit (i+k) || lj j (dY (i+k)) || (vF x y&&y.lo.all fun e=>lj e W))=true
 |[],_,_,k,y,hk=>by simp at hk
 |z :: l,i,h,k,y,hk=>by
  unfold JN at h;rw [aad] at h;cases k with
  |zero=>simp at hk; subst hk; exact h.1
  |succ k=>
   have:=zT h.2 k y (by simpa using hk);rw [show i+1+k=i+(k+1) by omega] at this;exact this
theorem zU {d:Nat} {s:bk}:∀ {l:List Nat},JL d s l=true→∀ e∈l,∀ off,lk s e≠.lp d off
 |[],_,e,he,_=>by cases he
 |a :: l,h,e,he,off=>by
  unfold JL at h;rw [aad] at h;rcases abo.1 he with rfl|he
  ·intro hv;have h1:=h.1;rw [hv] at h1;simp only [tQ] at h1;cases h1
  ·exact zU h.2 e he off
theorem qL {cf:List (List Nat)} (hA:CG ops dY) (hP:Yt ops.size (mm ops)=true) (hF:FH (mm ops) 0 (mm ops) cf=true) (hK:Inv K):∀ (T:DT) (n:Nat) (C:List Nat) (listed:Array Bool) (L:Nat),NC ops C→py dY listed→FJ ops L listed →
  (mQ (mm ops) (2 ^ ops.size - 1) dY cf T n C L none=true→∀ s,vi E f ops.toList T K s→gO E f ops dY C K n listed s) ∧
  (∀ m l,n=m+1→mQ (mm ops) (2 ^ ops.size - 1) dY cf T n C L (some l)=true→∀ s,vi E f ops.toList T K s→∀ i∈l,i∈aao .any ops listed→∀ oi,ops[i]?=some oi →
   cA E f ops.toList oi (fun s'=>Ls E f ops dY C i s'∧gO E f ops dY C K m (listed.setIfInBounds i true) s') s)
 |.done,n,C,listed,L,hC,jN,hM=>by
  refine ⟨fun h s hs=>?_,fun m l _ h=>by simp [mQ] at h⟩;have hL:L=2 ^ ops.size - 1:=abi (by simpa only [mQ] using h);have hr:aao .any ops listed=[]:=by
   apply List.eq_nil_iff_forall_not_mem.2;intro j hj;obtain ⟨h1,o,ho,_⟩:=mem_ready.1 hj;have bY:j < ops.size:=(aaB.1 ho).1;rw [hM.FK bY,hL,Nat.testBit_two_pow_sub_one] at h1;simp [bY] at h1
  cases n with
  |zero=>exact ⟨hr,hs⟩
  |succ n=>exact ⟨fun _=>hs,fun i hi=>by rw [hr] at hi; simp at hi⟩
 |.stop,n,C,listed,L,hC,jN,hM=>by
  refine ⟨fun h=>by cases n <;> simp [mQ] at h,fun m l e h s _ i hi=>?_⟩;subst e;have:l=[]:=by simpa [mQ] using h
  rw [this] at hi;simp at hi
 |.al j W T,0,C,listed,L,hC,jN,hM=>⟨fun h=>by simp [mQ] at h,fun m l e=>by cases e⟩
 |.al j W T,n+1,C,listed,L,hC,jN,hM=>by
  refine ⟨fun h s hs=>?_,fun m l _ h=>by simp [mQ] at h⟩;unfold mQ at h;split at h
  ·rename_i x hx;obtain ⟨oj,hj,rfl⟩:=uw hx;split at h
   ·cases h
   ·rename_i d hd;simp only [pC,aad] at h;obtain ⟨⟨⟨⟨⟨hCe,BR⟩,hbit⟩,WS⟩,zk⟩,hT⟩:=h;have hCe:C=[]:=by simpa using hCe
    subst hCe;have BR:b7 oj.op=true:=BR;have hd:oj.dst=some d:=hd;have zV:j∈aao .any ops listed:=s9 hM hj (by simpa using hbit) WS (rS hP hj);obtain ⟨ih,_⟩:=qL hA hP hF hK T n [] (listed.setIfInBounds j true) (L ||| 2 ^ j) (fun k hk=>by cases hk) (jN.add hA zV) (hM.add j);unfold vi at hs;rw [bj,aaO,hj] at hs;simp only at hs;obtain ⟨dS,hs⟩:=hs;unfold Yr at dS;split at dS
    ·rename_i _ d' hg Jo;rw [hd] at Jo;cases Jo;rw [aad] at dS;have Yq:E.Dt f d=false:=by simpa using dS.1
     have XN:cA E f ops.toList oj (gO E f ops dY [] K n (listed.setIfInBounds j true)) s:=cB hs fun s' h'=>ih hT s' h'
     unfold cA at XN;rw [hg] at XN;obtain ⟨s1,q1,q2⟩:=(JJ BR).1 XN;refine Nx hA hK hj hg hd BR Yq n listed s s1 jN (fun i oi hi cK Nv vy=>?_) zV q1 q2;have hJ:=zT zk i _ (mn hi);rw [abq] at hJ;simp only [abt] at hJ;have Yu:i < ops.size:=(aaB.1 hi).1;rcases hJ with ((h1|h1)|h1)|h1
     ·exact absurd (abi h1) cK
     ·rw [hM.FK Yu,h1] at Nv; cases Nv
     ·exact absurd (ga.1 h1) vy
     ·rw [aad] at h1;exact ⟨CJ h1.1,fun e he off=>zU dS.2 e (ga.1 (aau.1 h1.2 e he)) off⟩
    ·cases dS
  ·cases h
 |.take j C' T,0,C,listed,L,hC,jN,hM=>⟨fun h=>by simp [mQ] at h,fun m l e=>by cases e⟩
 |.take j C' T,n+1,C,listed,L,hC,jN,hM=>by
  refine ⟨fun h s hs=>?_,fun m l _ h=>by simp [mQ] at h⟩;unfold mQ at h;split at h
  ·rename_i x c hx hc;obtain ⟨oj,hj,rfl⟩:=uw hx;split at h
   ·cases h
   ·rename_i d hd;simp only [pC,aad] at h;obtain ⟨⟨⟨⟨⟨⟨⟨hN,FE⟩,hCd⟩,hcf⟩,hbit⟩,WS⟩,qc⟩,Yv,hT⟩:=h;have hN:vh oj.op=true:=hN;have hd:oj.dst=some d:=hd;have zV:j∈aao .any ops listed:=s9 hM hj (by simpa using hbit) WS (rS hP hj);have hnm:∀ {d:Nat} {l:List Nat},(!lj d l)=true→d∉l:=fun h hm=>by rw [ga.2 hm] at h; cases h
    have Yw:d∉oj.looksAt ops:=hnm FE;have agN:∀ k∈C,∀ ok,ops[k]?=some ok→d∉ok.looksAt ops∧ok.dst≠some d:=fun k hk ok dS=>by
     have:=aau.1 hCd k hk;rw [iS dS] at this;simp only [aad] at this;refine ⟨hnm this.1,fun e=>?_⟩;have h2:=this.2;simp only [mj,e,tQ] at h2;cases h2
    have Rt:NC ops (j :: C):=fun k hk ok ho=>by
     rcases abo.1 hk with rfl|hk
     ·rw [hj] at ho; cases ho; exact hN
     ·exact hC k hk ok ho
    have agO:=jN.add hA zV;obtain ⟨ih,_⟩:=qL hA hP hF hK T n C' (listed.setIfInBounds j true) (L ||| 2 ^ j) (CK qc) agO (hM.add j);unfold vi at hs;rw [bj,aaO,hj] at hs;simp only at hs;have XN:cA E f ops.toList oj (gO E f ops dY (j :: C) K n (listed.setIfInBounds j true)) s:=cB hs fun s' h'=>pu n _ _ (xe (hM.add j) Yv) (ih hT s' h')
    obtain ⟨x,so,hk⟩:=zK hN (jw Rt hK _ _) XN;rw [hd] at hk;refine Io hA hC hK hj hN hd Yw agN n listed s x jN (fun i oi hi cK Nv vy=>?_) zV so hk;have zk:=zS hF j _ c (mn hj) (by rw [← bj]; exact hc) hN;have hJ:=zQ zk i _ (mn hi);rw [abq,abq] at hJ;simp only [abt] at hJ;have Yu:i < ops.size:=(aaB.1 hi).1;rcases hJ with ((h1|h1)|h1)|h1
    ·exact absurd (abi h1) cK
    ·obtain ⟨e,q1,q2,q3⟩:=kh.1 (ga.1 h1);exact absurd q3 (vy e (by simpa using q1) q2)
    ·have:=aau.1 hcf i (ga.1 h1);rw [hM.FK Yu,this] at Nv;cases Nv
    ·exact CJ h1
  ·cases h
 |.br i re C' T more,0,C,listed,L,hC,jN,hM=>⟨fun h=>by simp [mQ] at h,fun m l e=>by cases e⟩
 |.br i re C' T more,n+1,C,listed,L,hC,jN,hM=>by
  have main:∀ left l,(match left with | none=>pA L 0 (mm ops) | some l=>l)=l→mQ (mm ops) (2 ^ ops.size - 1) dY cf (.br i re C' T more) (n+1) C L left=true→∀ s,vi E f ops.toList (.br i re C' T more) K s→i∈l∧∀ k∈l,k∈aao .any ops listed→∀ ok,ops[k]?=some ok →
    cA E f ops.toList ok (fun s'=>Ls E f ops dY C k s'∧gO E f ops dY C K n (listed.setIfInBounds k true) s') s:=by
   intro left l hl h s hs;unfold mQ at h;split at h
   ·cases h
   ·rename_i y hy;obtain ⟨oi,uv,rfl⟩:=uw hy;have h:(WR (mm ops) dY C re i (mj ops oi)&&JO (mm ops) C'&&lj i l&&(yu (mm ops) dY (L ||| 2 ^ i) C C'&&mQ (mm ops) (2 ^ ops.size - 1) dY cf T n C' (L ||| 2 ^ i) none) &&
     mQ (mm ops) (2 ^ ops.size - 1) dY cf more (n+1) C L (some (l.filter fun k=>!abj k i)))=true:=by
     cases left with
     |none=>simp only at hl; subst hl; simp only [zP,pC] at h; exact h
     |some l'=>simp only at hl; subst hl; simp only [pC] at h; exact h
    simp only [aad] at h;obtain ⟨⟨⟨⟨hre,qc⟩,sr⟩,Yv,hT⟩,hmore⟩:=h;unfold vi at hs;refine ⟨ga.1 sr,fun k hk Sk ok dS=>?_⟩;by_cases e:k=i
    ·subst e;rw [uv] at dS;cases dS;obtain ⟨ih,_⟩:=qL hA hP hF hK T n C' (listed.setIfInBounds k true) (L ||| 2 ^ k) (CK qc) (jN.add hA Sk) (hM.add k);have h1:=hs.1;rw [bj,aaO,uv] at h1;refine cB h1 fun s' h'=>⟨fun c hc oc WQ q1 q2 q3 q4=>?_,pu n _ _ (xe (hM.add k) Yv) (ih hT s' h'.2)⟩
     rw [uv] at q2;cases q2;have Cw:=aau.1 hre c hc;rw [iS q1] at Cw;have q3':rQ (mj ops oc) (mj ops oi)=true:=q3;simp only [q3',Bool.not_true,Bool.false_or,abt] at Cw;rcases Cw with Cw|Cw
     ·have hm:c∈re:=ga.1 Cw;have:∀ (re:List Nat),c∈re→CI E f ops.toList re s'→Ig E f ops.toList oc s':=by
       intro re
       induction re with
       |nil=>intro hm; simp at hm
       |cons a re ihr=>
        intro hm ha;rcases abo.1 hm with rfl|hm
        ·have:=ha.1;rw [bj,aaO,q1] at this;exact this
        ·exact ihr hm ha.2
      exact this re hm h'.1
     ·exact absurd (ga.1 Cw) q4
    ·obtain ⟨_,ih⟩:=qL hA hP hF hK more (n+1) C listed L hC jN hM;refine ih n _ rfl hmore s hs.2 k ?_ Sk ok dS;rw [List.mem_filter];exact ⟨hk,by rw [oY e]; rfl⟩
  refine ⟨fun h s hs=>?_,fun m l e h s hs k hk Sk ok dS=>?_⟩
  ·obtain ⟨m1,m2⟩:=main none _ rfl h s hs;have back:∀ k,k∈pA L 0 (mm ops)→k∈aao .any ops listed:=fun k hk=>by
    obtain ⟨j,x,q1,q2,q3,q4⟩:=qJ.1 hk;rw [abq] at q1;subst q1;rw [← bj] at q2;obtain ⟨o,ho,rfl⟩:=uw q2;exact s9 hM ho q3 q4 (rS hP ho)
   have ac2:∀ k,k∈aao .any ops listed→k∈pA L 0 (mm ops):=fun k hk=>by
    obtain ⟨h1,o,ho,qc⟩:=mem_ready.1 hk;have bY:k < ops.size:=(aaB.1 ho).1;refine qJ.2 ⟨k,mj ops o,by omega,mn ho,by rw [← hM.FK bY]; exact h1,aau.2 fun e he=>?_⟩;obtain ⟨ed,q1,q2,rfl⟩:=kh.1 he;have h2:=qc ed (by simpa using q1) q2;rw [hM.FK (rS hP ho ed (by simpa using q1) q2)] at h2;exact h2
   refine ⟨fun h0=>?_,fun k hk ok dS=>m2 k (ac2 k hk) hk ok dS⟩;have:=back i m1;rw [h0] at this;simp at this
  ·cases e;exact (main (some l) l rfl h s hs).2 k hk Sk ok dS
theorem zW {R:ak} {w:World} {β:Nat→Nat} {F:Fence} {Qc:Exit→Act→World→Prop} {C:List Nat} (hQ:∀ a' w',qF E R w β s K a' w'→Qc .normal a' w') :
  ∀ (n:Nat) (listed:Array Bool) (R1:ak) (w1:World) (β1:Nat→Nat) (s1:St) (a1:Act),bq E R1 w1 β1 s1 a1→Step R w β s.boxes R1 w1 β1 s1.boxes→s1.ro=s.ro→bZ R1 s1.ro F →
   gO E f ops dY C K n listed s1→wpAnyIn F 0 E.P .any ops Qc n listed a1 w1
 |0,listed,R1,w1,β1,s1,a1,hr,mP,ca,_,ha=>⟨ha.1,hQ _ _ ⟨s1,R1,β1,ha.2,hr,mP,ca⟩⟩
 |n+1,listed,R1,w1,β1,s1,a1,hr,mP,ca,hf,ha=>by
  refine ⟨fun h0=>hQ _ _ ⟨s1,R1,β1,ha.1 h0,hr,mP,ca⟩,fun i hi=>?_⟩;obtain ⟨_,o,ho,_⟩:=mem_ready.1 hi;unfold wpOpIn;simp only [ho];refine ul hr hf (ha.2 i hi o ho) _ ?_;rintro a' w' ⟨s',R',β',q1,q2,q3,q4⟩;exact zW hQ n _ R' w' β' s' a' q2 (mP.trans q3) (q4.trans ca) (by rw [q4]; exact hf.mono q3.ext) q1.2
theorem gF {K':St→Prop} (hK:∀ s,K s→K' s):∀ (T:DT) (s:St),vi E f ops.toList T K s→vi E f ops.toList T K' s
 |.done,s,h=>hK s h
 |.stop,_,_=>trivial
 |.take j C T,s,h=>by
  unfold vi at h ⊢;split
  ·rename_i oj hj;rw [hj] at h;exact cB h fun s' h'=>gF hK T s' h'
  ·rename_i hj;rw [hj] at h;exact h
 |.al j W T,s,h=>by
  unfold vi at h ⊢;split
  ·rename_i oj hj;rw [hj] at h;exact ⟨h.1,cB h.2 fun s' h'=>gF hK T s' h'⟩
  ·rename_i hj;rw [hj] at h;exact h
 |.br i re C T more,s,h=>by
  unfold vi at h ⊢;refine ⟨?_,gF hK more s h.2⟩;have h:=h.1;split
  ·rename_i oj hj;rw [hj] at h;exact cB h fun s' h'=>⟨h'.1,gF hK T s' h'.2⟩
  ·rename_i hj;rw [hj] at h;exact h
structure af where
 dY:List (List Nat)
 cf:List (List Nat)
 T:DT
def Ir (ops:Array Oper) (p:af):Bool:=JM (ops.toList.map (mj ops)) fun I=>
 DS ops.size fun n=>DS (2 ^ n - 1) fun N=>zO (Ny p.dY) 0 I&&Yt n I&&FH I 0 I p.cf&&mQ I N (Ny p.dY) p.cf p.T n [] 0 none
theorem bq.drawn {R:ak} {w:World} {β:Nat→Nat} {a:Act} (h:bq E R w β s a):bq E R { w with drawn:=w.drawn+1 } β s a∧Step R w β s.boxes R { w with drawn:=w.drawn+1 } β s.boxes:=by
 have e:Ext R w R { w with drawn:=w.drawn+1 }:=⟨fun _ _ h=>h,fun _ _ _=>rfl,fun _ ro h=>⟨ro,h,cV.refl ro⟩,iJ.refl w⟩;refine ⟨⟨⟨h.g.len,fun id go ro h1 h2=>(h.g.obj id go ro h1 h2).mono e (fun _ _=>rfl) (fun _ _ _ h=>h),h.g.inj,h.g.wf,fun g cs hg=>(h.g.cw g cs hg).mono e,Nat.le_succ_of_le h.g.lo⟩,?_,h.t.mono e,h.n,h.d⟩,?_⟩
 ·exact h.b.bJ e (fun _ _ _=>rfl) (fun _ _ _ _ h=>h) (fun _ _ _ h=>h)
 ·exact ⟨e,rfl,rfl,rfl,Nat.le_refl _,fun _ _ _=>rfl,fun _ _ h=>h,fun _ _ h _ _=>h⟩
theorem hU.draw {id:Nat} {p:af} {Q:Exit→St→Prop} (dS:Ir ops p=true) (h:vi E f ops.toList p.T (Q .normal) s):hU E (.region id ops true) Q s:=fun R w β a F hr hf=>by
 simp only [Ir,FI,pC,aad] at dS;obtain ⟨⟨⟨hA,hP⟩,hF⟩,hT⟩:=dS;refine wpIn_region_any E.mixed ?_;obtain ⟨q1,q2⟩:=hr.drawn;have hK:Inv (fun s=>∃ u,rN u s∧Q .normal u):=fun s t e ⟨u,h1,h2⟩=>⟨u,h1.trans e,h2⟩
 have h':=gF (K':=fun s=>∃ u,rN u s∧Q .normal u) (fun s h=>⟨s,rN.refl s,h⟩) p.T s h;have jN:py (Ny p.dY) (Array.replicate ops.size false):=fun i hi=>by
  rw [abr,Array.getElem?_replicate] at hi;split at hi <;> cases hi
 have DU:=(qL (E:=E) (f:=f) (Iq hA) hP hF hK p.T ops.size [] (Array.replicate ops.size false) 0 (fun k hk=>by simp at hk) jN ⟨by simp,fun i hi=>by simp [hi]⟩).1 hT s h';refine zW (R:=R) (w:=w) (β:=β) (s:=s) (f:=f) (K:=fun s=>∃ u,rN u s∧Q .normal u) ?_ _ _ R _ β s a q1 q2 rfl hf DU;rintro a' w' ⟨s',R',β',⟨u,e,hu⟩,h2,h3,h4⟩;exact ⟨u,R',β',hu,h2.eqv e.symm,h3.eqv rfl e.symm.b,e.ro.trans h4⟩
end
end Go.Am
