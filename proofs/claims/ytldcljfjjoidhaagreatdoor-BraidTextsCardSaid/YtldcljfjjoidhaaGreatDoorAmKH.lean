/- The abstract machine: regions whose order the tape draws,along a tree of choices that was checked. -/
import Derived.Test.YtldcljfjjoidhaaGreatDoorAmKG
set_option linter.all false
open Array renaming getElem?_eq_some_iff→aae, getElem?_toList→aaf, getD_eq_getD_getElem?→aa0, setIfInBounds_comm→aa3
open Bool renaming and_eq_true→aab, or_eq_true→aa1, not_eq_true'→aa2
open Go.Region renaming ready→aac, binds→aag
open List renaming all_eq_true→aad, cons_append→aao, mem_cons→aap, nil_append→aaF, mem_cons_of_mem→aa4
open Nat renaming eq_of_beq_eq_true→aah, beq→aai, zero_add→aaZ
namespace Go.Am
open Go
section
variable {E:Env} {s t:St} {f:FuncId} {ops:Array Oper} {o oj oi:Oper} {d:Tmp} {x:SV} {K K':St→Prop} {dw:Nat→List Nat} {C:List Nat}
def JK (E:Env) (f:FuncId) (ops:Array Oper) (dw:Nat→List Nat) (C:List Nat) (i:Nat) (s:St):Prop:=
 ∀ j∈C,∀ oj oi,ops[j]?=some oj→ops[i]?=some oi→jC oj oi=true→j∉dw i→Gx E f ops.toList oj s
def NC (ops:Array Oper) (C:List Nat):Prop:=∀ j∈C,∀ oj,ops[j]?=some oj→tZ oj.op=true
theorem qJ {i:Nat} (hC:NC ops C):Inv (JK E f ops dw C i):=fun _ _ e h j hj oj oi h1 h2 h3 h4=>PP (hC j hj oj h1) e (h j hj oj oi h1 h2 h3 h4)
def fH (E:Env) (f:FuncId) (ops:Array Oper) (dw:Nat→List Nat) (C:List Nat) (K:St→Prop):Nat→Array Bool→St→Prop
 |0,listed,s=>aac .any ops listed=[]∧K s
 |n+1,listed,s=>(aac .any ops listed=[]→K s) ∧
   ∀ i∈aac .any ops listed,∀ oi,ops[i]?=some oi→cw E f ops.toList oi (fun s'=>JK E f ops dw C i s'∧fH E f ops dw C K n (listed.setIfInBounds i true) s') s
theorem iC (hC:NC ops C) (hK:Inv K):∀ n listed,Inv (fH E f ops dw C K n listed)
 |0,_=>fun s t e h=>⟨h.1,hK s t e h.2⟩
 |n+1,_=>fun s t e h=>⟨fun h0=>hK s t e (h.1 h0),fun i hi oi tw=>D1 (fun s t e h=>⟨qJ hC s t e h.1,iC hC hK n _ s t e h.2⟩) s t e (h.2 i hi oi tw)⟩
theorem oa {C':List Nat}:∀ n (listed:Array Bool) (s:St),
  (∀ k∈C',k∈C∨∀ i ok oi,ops[k]?=some ok→ops[i]?=some oi→listed.getD i true=false→jC ok oi=true→k∈dw i) →
  fH E f ops dw C K n listed s→fH E f ops dw C' K n listed s
 |0,_,_,_,h=>h
 |n+1,listed,s,hk,h=>⟨h.1,fun i hi oi tw=>cz (h.2 i hi oi tw) fun s' h'=>⟨fun k VU ok Us h1 h2 h3 h4=>by
   rcases hk k VU with h5|h5
   ·exact h'.1 k h5 ok Us h1 h2 h3 h4
   ·exact absurd (h5 i ok Us h1 h2 (mem_ready.1 hi).1 h3) h4,oa n _ s' (fun k VU=>by
   rcases hk k VU with h5|h5
   ·exact .inl h5
   ·refine .inr fun i' ok Us h1 h2 h3 h4=>h5 i' ok Us h1 h2 ?_ h4
    by_cases e:i=i'
    ·subst e; exact (mem_ready.1 hi).1
    ·rw [getD_set_ne true e] at h3; exact h3) h'.2⟩⟩
def Bj (ops:Array Oper) (dw:Nat→List Nat):Prop:=∀ i oi a,ops[i]?=some oi→a∈dw i→∃ e∈oi.after,aag .any e=true∧(e.on=a∨a∈dw e.on)
def od (dw:Nat→List Nat) (listed:Array Bool):Prop:=∀ i,listed.getD i false=true→∀ a∈dw i,listed.getD a false=true
theorem od.ready {listed:Array Bool} (h:od dw listed) (ha:Bj ops dw) {i:Nat} (hi:i∈aac .any ops listed):∀ a∈dw i,listed.getD a false=true:=fun a haa=>by
 obtain ⟨_,o,ho,oX⟩:=mem_ready.1 hi;obtain ⟨e,he,hb,h2⟩:=ha i o a ho haa;rcases h2 with rfl|h2
 ·exact oX e he hb
 ·exact h _ (oX e he hb) a h2
theorem jX {listed:Array Bool} {i:Nat} (h:listed.getD i false=true):listed.getD i true=true:=by
 rw [aa0] at *;cases hl:listed[i]? with
 |none=>rw [hl] at h; cases h
 |some b=>rw [hl] at h; exact h
theorem od.add {listed:Array Bool} (h:od dw listed) (ha:Bj ops dw) {i:Nat} (hi:i∈aac .any ops listed):od dw (listed.setIfInBounds i true):=fun k hk a haa=>by
 by_cases e:i=k
 ·subst e;exact getD_set_true (h.ready ha hi a haa)
 ·rw [getD_set_ne false e] at hk;exact getD_set_true (h k hk a haa)
theorem GF (hA:Bj ops dw) (hC:NC ops C) (hK:Inv K) {j:Nat} (hj:ops[j]?=some oj) (hN:tZ oj.op=true) (H9:oj.dst=some d) (D3:d∉oj.looksAt ops)
  (hCd:∀ k∈C,∀ ok,ops[k]?=some ok→d∉ok.looksAt ops∧ok.dst≠some d):∀ n (listed:Array Bool) (s:St) (x:SV),od dw listed →
   (∀ i oi,ops[i]?=some oi→i≠j→listed.getD i true=false→(∀ e∈oi.after,aag .any e=true→e.on≠j)→oj.apart ops oi=true) →
   j∈aac .any ops listed→yq E f ops oj s x→fH E f ops dw (j :: C) K n (listed.setIfInBounds j true) (s.put (some d) x)→fH E f ops dw C K (n+1) listed s:=by
 have Pn:NC ops (j :: C):=fun k hk ok ho=>by
  rcases aap.1 hk with rfl|hk
  ·rw [hj] at ho; cases ho; exact hN
  ·exact hC k hk ok ho
 have self:∀ n (listed:Array Bool) (s:St) (x:SV),yq E f ops oj s x→fH E f ops dw (j :: C) K n (listed.setIfInBounds j true) (s.put (some d) x)→∀ oi,ops[j]?=some oi →
   cw E f ops.toList oi (fun s'=>JK E f ops dw C j s'∧fH E f ops dw C K n (listed.setIfInBounds j true) s') s:=fun n listed s x hx h oi tw=>by
  rw [hj] at tw;cases tw;refine yu hN (fun s t e h=>⟨qJ hC s t e h.1,iC hC hK _ _ s t e h.2⟩) hx ?_;rw [H9];refine ⟨fun k _ ok Us _ h2 h3 _=>?_,oa n _ _ (fun k hk=>.inl (aa4 _ hk)) h⟩;rw [hj] at h2;cases h2;simp [jC,DZ hN,hN] at h3
 intro n
 induction n with
 |zero=>
  intro listed s x _ _ hr hx h;refine ⟨fun h0=>by rw [h0] at hr; simp at hr,fun i hi oi tw=>?_⟩;by_cases e:i=j
  ·subst e; exact self 0 listed s x hx h oi tw
  ·have:=ready_mono hi e;rw [h.1] at this;simp at this
 |succ n ih=>
  intro listed s x jo jA hr hx h;refine ⟨fun h0=>by rw [h0] at hr; simp at hr,fun i hi oi tw=>?_⟩;by_cases e:i=j
  ·subst e; exact self (n+1) listed s x hx h oi tw
  ·have LS:=(mem_ready.1 hi).1;have PT:=(mem_ready.1 hr).1;have Vo:∀ ed∈oi.after,aag .any ed=true→ed.on≠j:=fun ed he hb lN=>by
    obtain ⟨_,o,ho,oX⟩:=mem_ready.1 hi;rw [tw] at ho;cases ho;have h1:=jX (oX ed he hb);rw [lN,PT] at h1;cases h1
   have Ur:=jA i oi tw e LS Vo;have hG:=h.2 i (ready_mono hi e) oi tw;have LU:j∉dw i:=fun hm=>by
    have h1:=jX (jo.ready hA hi j hm);rw [PT] at h1;cases h1
   have hKi:Inv (fun s'=>JK E f ops dw (j :: C) i s'∧fH E f ops dw (j :: C) K n ((listed.setIfInBounds j true).setIfInBounds i true) s'):=
    fun s t e h=>⟨qJ Pn s t e h.1,iC Pn hK _ _ s t e h.2⟩
   have VV:∀ k ok,ops[k]?=some ok→k≠j→(listed.setIfInBounds i true).getD k true=false→(∀ e∈ok.after,aag .any e=true→e.on≠j)→oj.apart ops ok=true:=fun k ok hk hkj hku uz=>by
    refine jA k ok hk hkj ?_ uz;by_cases e':i=k
    ·subst e'; exact LS
    ·rw [getD_set_ne true e'] at hku; exact hku
   have core:∀ {pre:bj} {preB:cV} {G:List GO},Y0 (b6 oi.op) oi.dst pre→(tZ oi.op=true→preB=[]∧G=s.G) →
     (JK E f ops dw (j :: C) i ((s.put (some d) x).ft pre preB G)∧fH E f ops dw (j :: C) K n ((listed.setIfInBounds j true).setIfInBounds i true) ((s.put (some d) x).ft pre preB G)) →
     JK E f ops dw C i (s.ft pre preB G)∧fH E f ops dw C K (n+1) (listed.setIfInBounds i true) (s.ft pre preB G):=by
    intro pre preB G Aw hNi hk;obtain ⟨x',oW,iJ⟩:=JF hN H9 D3 Ur hKi hx Aw hNi hk (fun t' D5 hd=>D5.1 j (List.mem_cons_self ..) oj oi hj tw hd LU);refine ⟨fun k VU ok Us h1 h2 h3 h4=>?_,?_⟩
    ·obtain ⟨q1,q2⟩:=hCd k VU ok h1;obtain ⟨b1,b2,b3,_⟩:=fV (s.ft pre preB G) (some d) x';exact PO (hC k VU ok h1) q1 q2 (fun e he=>wU _ _ _ he) (by rw [b1]) b2 b3 (iJ.1 k (aa4 _ VU) ok Us h1 h2 h3 h4)
    ·refine ih (listed.setIfInBounds i true) _ x' (jo.add hA hi) VV (ready_mono hr (Ne.symm e)) oW ?_;rw [aa3 _ _ e];exact iJ.2
   rw [fU (fun s t e h=>⟨qJ hC s t e h.1,iC hC hK _ _ s t e h.2⟩)];obtain ⟨DD,_,_⟩:=Oper.apart_spec Ur;have wS:∀ e∈oi.looksAt ops,lk (s.put (some d) x).ae e=lk s.ae e:=fun e he=>wU s d x fun k=>DD d H9 (k ▸ he)
   obtain ⟨b1,b2,b3,b4,b5⟩:=fV s (some d) x;rcases (fU hKi).1 hG with ⟨h1,h2⟩|⟨h1,h2⟩
   ·refine .inl ⟨by rw [← kv wS]; exact h1,uE b3 b2 (by rw [b1]) (kI wS) h2 fun pre preB G hp hNi hk=>core hp (fun hh=>?_) hk⟩;obtain ⟨q1,q2⟩:=hNi hh;exact ⟨q1,by rw [q2,b2]⟩
   ·refine .inr ⟨by rw [← kv wS]; exact h1,?_⟩;obtain ⟨pre,preB,G,p1,p2,p3,p4⟩:=bZ.put (s:=s.put (some d) x) (t:=s) (al:=b6 oi.op) (w:=false) b3 b2 oi.dst (.v fM);obtain ⟨q1,q2,_⟩:=p2 rfl;rw [p3] at h2;rw [p4];exact core p1 (fun _=>⟨q1,by rw [q2,b2]⟩) h2
theorem Ic {i:Nat} {s:St}:JK E f ops dw [] i s:=fun j hj=>by cases hj
theorem VW {y:Operand} {k off:Nat} (h:bP E s.ae y=.lp k off):∃ e,y=.tmp e∧lk s.ae e=.lp k off:=by
 cases y with
 |tmp e=>exact ⟨e,rfl,h⟩
 |const v=>simp only [bP] at h; split at h <;> cases h
 |global g=>simp only [bP] at h; split at h <;> cases h
 |func g=>cases h
theorem LV (hA:Bj ops dw) (hK:Inv K) {j:Nat} (hj:ops[j]?=some oj) (hg:oj.guard=none) (H9:oj.dst=some d) (wF:b6 oj.op=true) (VX:E.BZ f d=false):∀ n (listed:Array Bool) (s s1:St),od dw listed →
  (∀ i oi,ops[i]?=some oi→i≠j→listed.getD i true=false→j∉dw i→oj.apart ops oi=true∧∀ e∈oi.looksAt ops,∀ off,lk s.ae e≠.lp d off) →
  j∈aac .any ops listed→an E f s oj=some (true,s1)→fH E f ops dw [] K n (listed.setIfInBounds j true) s1→fH E f ops dw [] K (n+1) listed s:=by
 have Pn:NC ops []:=fun k hk=>by cases hk
 have self:∀ n (listed:Array Bool) (s s1:St),an E f s oj=some (true,s1)→fH E f ops dw [] K n (listed.setIfInBounds j true) s1→∀ oi,ops[j]?=some oi →
   cw E f ops.toList oi (fun s'=>JK E f ops dw [] j s'∧fH E f ops dw [] K n (listed.setIfInBounds j true) s') s:=fun n listed s s1 hx h oi tw=>by
  rw [hj] at tw;cases tw;unfold cw;rw [hg];exact (Ib wF).2 ⟨s1,hx,Ic,h⟩
 intro n
 induction n with
 |zero=>
  intro listed s s1 _ _ hr hx h;refine ⟨fun h0=>by rw [h0] at hr; simp at hr,fun i hi oi tw=>?_⟩;by_cases e:i=j
  ·subst e; exact self 0 listed s s1 hx h oi tw
  ·have:=ready_mono hi e;rw [h.1] at this;simp at this
 |succ n ih=>
  intro listed s s1 jo jA hr hx h;refine ⟨fun h0=>by rw [h0] at hr; simp at hr,fun i hi oi tw=>?_⟩;by_cases e:i=j
  ·subst e; exact self (n+1) listed s s1 hx h oi tw
  ·have LS:=(mem_ready.1 hi).1;have PT:=(mem_ready.1 hr).1;have LU:j∉dw i:=fun hm=>by
    have h1:=jX (jo.ready hA hi j hm);rw [PT] at h1;cases h1
   obtain ⟨Ur,uz⟩:=jA i oi tw e LS LU;obtain ⟨DD,cS,F6⟩:=Oper.apart_spec Ur;have LQ:oi.dst≠some d:=cS d H9;obtain ⟨_,cs,rfl,HZ⟩:=GC wF H9 VX hx;have hG:=h.2 i (ready_mono hi e) oi tw;have hKi:Inv (fun s'=>JK E f ops dw [] i s'∧fH E f ops dw [] K n ((listed.setIfInBounds j true).setIfInBounds i true) s'):=
    fun s t e h=>⟨qJ Pn s t e h.1,iC Pn hK _ _ s t e h.2⟩
   have JJ:∀ y∈oi.op.operands,∀ off,bP E s.ae y≠.lp d off:=fun y hy off hv=>by
    obtain ⟨e',rfl,hv⟩:=VW hv;exact uz e' (n9 hy) off hv
   have core:∀ {pre:bj} {preB:cV} {G:List GO},iN E s oi (s.ft pre preB G) →
     (JK E f ops dw [] i ((sd s d cs).ft pre preB G)∧fH E f ops dw [] K n ((listed.setIfInBounds j true).setIfInBounds i true) ((sd s d cs).ft pre preB G)) →
     JK E f ops dw [] i (s.ft pre preB G)∧fH E f ops dw [] K (n+1) (listed.setIfInBounds i true) (s.ft pre preB G):=by
    intro pre preB G PS hk;refine ⟨Ic,?_⟩;obtain ⟨o1,o2⟩:=Ia PS;have wS:∀ e' off,oi.dst≠some e'∨lk (s.ft pre preB G).ae e'=.lp d off→lk (s.ft pre preB G).ae e'=.lp d off→lk s.ae e'=.lp d off:=by
     intro e' off _ hv;have hv:lk (pre++s.ae) e'=.lp d off:=hv;rcases o1 with rfl|⟨d',x,HP,hp,hxx⟩
     ·exact hv
     ·have oW:∀ off,x≠.lp d off:=fun off c=>by
       rcases hxx d off c with ⟨y,hy,fO,ho⟩|⟨_,h⟩
       ·exact JJ y hy fO ho
       ·exact LQ (by rw [HP,h])
      by_cases c2:d'=e'
      ·subst c2;rcases hp with rfl|rfl
       ·simp only [aao,aaF,aA] at hv; exact absurd hv (oW off)
       ·simp only [aao,aaF,aA] at hv; exact absurd hv (oW off)
      ·rcases hp with rfl|rfl
       ·simp only [aao,aaF] at hv; rwa [aS c2] at hv
       ·simp only [aao,aaF] at hv;rw [aS c2,jD] at hv;cases hl:lk s.ae e' with
        |lp k fO=>
         rw [hl] at hv;simp only at hv;cases hb:aai k d' with
         |true=>rw [hb] at hv; cases hv
         |false=>rw [hb] at hv; exact hv
        |v a=>rw [hl] at hv; cases hv
        |none=>rw [hl] at hv; cases hv
    refine ih (listed.setIfInBounds i true) _ _ (jo.add hA hi) ?_ (ready_mono hr (Ne.symm e)) (HZ (s.ft pre preB G) rfl ?_) ?_
    ·intro k ok iJ hkj hku aen;have aeo:listed.getD k true=false:=by
      by_cases e':i=k
      ·subst e'; exact LS
      ·rw [getD_set_ne true e'] at hku; exact hku
     obtain ⟨q1,q2⟩:=jA k ok iJ hkj aeo aen;exact ⟨q1,fun e' he' off hv=>q2 e' he' off (wS e' off (.inr hv) hv)⟩
    ·intro y hy v hv;cases y with
     |tmp e'=>
      have HP:oi.dst≠some e':=fun c=>F6 e' c (n9 hy)
      have hv:lk s.ae e'=.v v:=hv;show lk (pre++s.ae) e'=.v v;rcases o1 with rfl|⟨d',x,VO,hp,_⟩
      ·exact hv
      ·have c2:d'≠e':=fun c=>HP (by rw [VO,c])
       rcases hp with rfl|rfl
       ·simp only [aao,aaF]; rw [aS c2]; exact hv
       ·simp only [aao,aaF];rw [aS c2,yx (fun off=>by rw [hv]; intro c; cases c)]; exact hv
     |const _=>exact hv
     |global _=>exact hv
     |func _=>exact hv
    ·rw [aa3 _ _ e];exact iC Pn hK _ _ _ _ (JI cs PS LQ JJ) hk.2
   have Cn:∀ e'∈oi.looksAt ops,lk (sd s d cs).ae e'=lk s.ae e':=fun e' he'=>by
    have c1:d≠e':=fun c=>DD d H9 (c ▸ he')
    show lk (.put d (.lp d 0) :: .kill d :: s.ae) e'=_;rw [aS c1,yx (uz e' he')]
   have F1:∀ k off,(∃ y∈oi.op.operands,bP E (sd s d cs).ae y=.lp k off)→dA (sd s d cs).boxes k=dA s.boxes k:=by
    rintro k off ⟨y,hy,hv⟩;rw [kI Cn y hy] at hv;have Pc:d≠k:=fun c=>JJ y hy off (by rw [c]; exact hv)
    show dA ((d,cs) :: s.boxes) k=dA s.boxes k;simp only [dA];cases hb:aai d k with
    |true=>exact absurd (aah hb) Pc
    |false=>rfl
   rw [fU (fun s t e h=>⟨qJ Pn s t e h.1,iC Pn hK _ _ s t e h.2⟩)];rcases (fU hKi).1 hG with ⟨h1,h2⟩|⟨h1,h2⟩
   ·exact .inl ⟨by rw [← kv Cn]; exact h1,GD (s:=sd s d cs) (t:=s) rfl rfl F1 (kI Cn) h2 fun pre preB G hO hk=>core hO hk⟩
   ·refine .inr ⟨by rw [← kv Cn]; exact h1,?_⟩;obtain ⟨pre,preB,G,p1,p2,p3,p4⟩:=bZ.put (s:=sd s d cs) (t:=s) (al:=b6 oi.op) (w:=false) rfl rfl oi.dst (.v fM);rw [p3] at h2;have hO:iN E s oi (s.put oi.dst (.v fM)):=lU rfl rfl _;rw [p4] at hO ⊢;exact core hO h2
end
inductive DT where
 |done
 |take (j:Nat) (C:List Nat) (t:DT)
 |br (i:Nat) (re C:List Nat) (t:DT) (more:DT)
 |stop
 |al (j:Nat) (W:List Nat) (t:DT)
structure oe where
 dst:Option Tmp
 lo:List Tmp
 pr:List Nat
 n:Bool
 r:Bool
 a:Bool
def Ie (d:Nat) (s:bj):List Nat→Bool
 |[]=>true
 |e :: l=>(match lk s e with
  |.lp k _=>!aai k d
  |_=>true)&&Ie d s l
def VY (E:Env) (f:FuncId) (o:Oper) (W:List Nat) (s:St):Bool:=match o.guard,o.dst with
 |none,some d=>!E.BZ f d&&Ie d s.ae W
 |_,_=>false
def jY (x:Nat):List Nat→Bool
 |[]=>false
 |y :: l=>aai x y || jY x l
def qK:List Edge→List Nat
 |[]=>[]
 |e :: l=>bif aag .any e then e.on :: qK l else qK l
def kJ (ops:Array Oper) (o:Oper):oe:=⟨o.dst,o.looksAt ops,qK o.after.toList,tZ o.op,VT o.op,b6 o.op⟩
def Co {α:Type} (n:Nat) (K:Nat→α):α:=match n with
 |0=>K 0
 |m+1=>K (Nat.succ m)
def Bk {α:Type}:List Nat→(List Nat→α)→α
 |[],K=>K []
 |a :: l,K=>Co a fun a=>Bk l fun l=>K (a :: l)
def VZ {α:Type} (i:oe) (K:oe→α):α:=match i with
 |⟨d,lo,pr,n,r,a⟩=>Bk lo fun lo=>Bk pr fun pr=>(match d with
  |none=>(fun (K:Option Tmp→α)=>K none)
  |some d=>(fun (K:Option Tmp→α)=>Co d fun d=>K (some d))) fun d=>(bif n then (fun (K:Bool→α)=>K true) else fun K=>K false) fun n=>
   (bif r then (fun (K:Bool→α)=>K true) else fun K=>K false) fun r=>(bif a then (fun (K:Bool→α)=>K true) else fun K=>K false) fun a=>K ⟨d,lo,pr,n,r,a⟩
def Ig {α:Type}:List oe→(List oe→α)→α
 |[],K=>K []
 |i :: l,K=>VZ i fun i=>Ig l fun l=>K (i :: l)
def uG (x y:oe):Bool:=
 (match x.dst with
 |some d=>!jY d y.lo&&(match y.dst with | some e=>!aai e d | none=>true)
 |none=>true) &&
 (match y.dst with
 |some d=>!jY d x.lo
 |none=>true)
def D6 (j:Nat) (x:oe) (cf:List Nat):Nat→List oe→Bool
 |_,[]=>true
 |i,y :: l=>(aai i j || jY j y.pr || jY i cf || uG x y)&&D6 j x cf (i+1) l
def D7 (I:List oe):Nat→List oe→List (List Nat)→Bool
 |_,[],_=>true
 |j,x :: l,c :: cs=>(!x.n || D6 j x c 0 I)&&D7 I (j+1) l cs
 |_,_,_=>false
def yy (dw:Nat→List Nat):Nat→List oe→Bool
 |_,[]=>true
 |i,x :: l=>(dw i).all (fun a=>x.pr.any fun e=>aai e a || jY a (dw e))&&yy dw (i+1) l
def og (L:Nat):Nat→List oe→List Nat
 |_,[]=>[]
 |i,x :: l=>bif !L.testBit i&&x.pr.all (fun e=>L.testBit e) then i :: og L (i+1) l else og L (i+1) l
def qL (x y:oe):Bool:=y.a || (x.r&&!y.n)
def qM (dw:Nat→List Nat) (L k:Nat) (x:oe):Nat→List oe→Bool
 |_,[]=>true
 |i,y :: l=>(L.testBit i || !qL x y || jY k (dw i))&&qM dw L k x (i+1) l
def wV (I:List oe) (dw:Nat→List Nat) (L:Nat) (C C':List Nat):Bool:=C.all fun k=>jY k C' || match nth I k with
 |none=>false
 |some x=>qM dw L k x 0 I
def Ut (I:List oe) (dw:Nat→List Nat) (C re:List Nat) (i:Nat) (y:oe):Bool:=C.all fun k=>jY k re || match nth I k with
 |none=>false
 |some x=>!qL x y || jY k (dw i)
def Ih (dw:Nat→List Nat) (L:Nat) (W:List Nat) (j:Nat) (x:oe):Nat→List oe→Bool
 |_,[]=>true
 |i,y :: l=>(aai i j || L.testBit i || jY j (dw i) || (uG x y&&y.lo.all fun e=>jY e W))&&Ih dw L W j x (i+1) l
def Ii (I:List oe) (C:List Nat):Bool:=C.all fun k=>match nth I k with
 |some x=>x.n
 |none=>false
def lB (I:List oe) (N:Nat) (dw:Nat→List Nat) (cf:List (List Nat)):DT→Nat→List Nat→Nat→Option (List Nat)→Bool
 |.done,_,_,L,none=>aai L N
 |.take j C' t,n+1,C,L,none=>match nth I j,nth cf j with
  |some x,some c=>match x.dst with
   |none=>false
   |some d=>x.n&&!jY d x.lo&&(C.all fun k=>match nth I k with
     |none=>false
     |some y=>!jY d y.lo&&(match y.dst with | some e=>!aai e d | none=>true)) &&
    c.all (fun i=>L.testBit i)&&!L.testBit j&&x.pr.all (fun e=>L.testBit e)&&Ii I C' &&
    Co (L ||| 2 ^ j) fun L'=>wV I dw L' (j :: C) C'&&lB I N dw cf t n C' L' none
  |_,_=>false
 |.br i re C' t more,n+1,C,L,left=>match nth I i with
  |none=>false
  |some y=>(match left with
   |none=>fun (K:List Nat→Bool)=>Bk (og L 0 I) K
   |some l=>fun K=>K l) fun l=>
    Ut I dw C re i y&&Ii I C'&&jY i l&&(Co (L ||| 2 ^ i) fun L'=>wV I dw L' C C'&&lB I N dw cf t n C' L' none) &&
     lB I N dw cf more (n+1) C L (some (l.filter fun k=>!aai k i))
 |.stop,_,_,_,some l=>l.isEmpty
 |.al j W t,n+1,C,L,none=>match nth I j with
  |some x=>match x.dst with
   |none=>false
   |some _=>C.isEmpty&&x.a&&!L.testBit j&&x.pr.all (fun e=>L.testBit e)&&Ih dw L W j x 0 I&&Co (L ||| 2 ^ j) fun L'=>lB I N dw cf t n [] L' none
  |none=>false
 |_,_,_,_,_=>false
def Bl (E:Env) (f:FuncId) (ops:List Oper):List Nat→St→Prop
 |[],_=>True
 |k :: l,s=>(match nth ops k with
  |some ok=>Gx E f ops ok s
  |none=>True)∧Bl E f ops l s
def ua (E:Env) (f:FuncId) (ops:List Oper):DT→(St→Prop)→St→Prop
 |.done,K,s=>K s
 |.take j _ t,K,s=>match nth ops j with
  |some oj=>cw E f ops oj (ua E f ops t K) s
  |none=>False
 |.br i re _ t more,K,s=>(match nth ops i with
  |some oi=>cw E f ops oi (fun s'=>Bl E f ops re s'∧ua E f ops t K s') s
  |none=>False)∧ua E f ops more K s
 |.stop,_,_=>True
 |.al j W t,K,s=>match nth ops j with
  |some oj=>VY E f oj W s=true∧cw E f ops oj (ua E f ops t K) s
  |none=>False
def LW (l:List (List Nat)) (i:Nat):List Nat:=match nth l i with
 |some a=>a
 |none=>[]
section
variable {E:Env} {s t:St} {f:FuncId} {ops:Array Oper} {K:St→Prop} {dw:Nat→List Nat}
theorem eV {x:Nat}:∀ {l:List Nat},jY x l=true↔x∈l
 |[]=>by simp [jY]
 |y :: l=>by simp [jY,eV (l:=l)]
theorem oh {α:Type} (n:Nat) (K:Nat→α):Co n K=K n:=by cases n <;> rfl
theorem yz {α:Type}:∀ (l:List Nat) (K:List Nat→α),Bk l K=K l
 |[],_=>rfl
 |a :: l,K=>by simp only [Bk,oh]; rw [yz]
theorem PU {α:Type} (i:oe) (K:oe→α):VZ i K=K i:=by
 obtain ⟨d,lo,pr,n,r,a⟩:=i;cases d <;> cases n <;> cases r <;> cases a <;> simp [VZ,yz,oh]
theorem D8 {α:Type}:∀ (l:List oe) (K:List oe→α),Ig l K=K l
 |[],_=>rfl
 |a :: l,K=>by simp only [Ig,PU]; rw [D8]
def kK (ops:Array Oper):List oe:=ops.toList.map (kJ ops)
theorem tx {k:Nat} {x:oe} (h:nth (kK ops) k=some x):∃ o,ops[k]?=some o∧x=kJ ops o:=by
 rw [bi,kK,List.getElem?_map,aaf] at h;cases ho:ops[k]? with
 |none=>rw [ho] at h; cases h
 |some o=>rw [ho] at h; exact ⟨o,rfl,by simpa using h.symm⟩
theorem jh {e:Nat}:∀ {l:List Edge},e∈qK l↔∃ ed∈l,aag .any ed=true∧ed.on=e
 |[]=>by simp [qK]
 |x :: l=>by
  unfold qK;cases hb:aag .any x with
  |true=>
   simp only [cond_true,aap,jh (l:=l),exists_eq_or_imp,hb,true_and];constructor
   ·rintro (h|h)
    ·exact .inl h.symm
    ·exact .inr h
   ·rintro (h|h)
    ·exact .inl h.symm
    ·exact .inr h
  |false=>simp only [cond_false,aap,jh (l:=l),exists_eq_or_imp,hb,false_and,false_or,Bool.false_eq_true]
theorem Bm {x y:Oper} (h:uG (kJ ops x) (kJ ops y)=true):x.apart ops y=true:=by
 have hm:∀ (d:Nat) (l:List Nat),jY d l=false→l.contains d=false:=fun d l h=>by
  cases hc:l.contains d with
  |false=>rfl
  |true=>rw [eV.2 (by simpa using hc)] at h; cases h
 unfold uG at h;unfold Oper.apart;simp only [kJ,aab] at h ⊢;refine ⟨?_,?_⟩
 ·cases hx:x.dst with
  |none=>rfl
  |some d=>
   rw [hx] at h;simp only [aab,aa2] at h ⊢;refine ⟨hm _ _ h.1.1,?_⟩;have h2:=h.1.2;cases hy:y.dst with
   |none=>rfl
   |some e=>
    rw [hy] at h2;simp only [aa2] at h2;have:e≠d:=fun k=>by rw [k,sT] at h2; cases h2
    simpa using this
 ·cases hy:y.dst with
  |none=>rfl
  |some d=>
   rw [hy] at h;simp only [aa2] at h ⊢;exact hm _ _ h.2
def D9 (ops:Array Oper) (L:Nat) (listed:Array Bool):Prop:=listed.size=ops.size∧∀ i,i < ops.size→listed[i]?=some (L.testBit i)
theorem D9.add {L:Nat} {listed:Array Bool} (h:D9 ops L listed) (j:Nat):D9 ops (L ||| 2 ^ j) (listed.setIfInBounds j true):=by
 refine ⟨by simp [h.1],fun i hi=>?_⟩;rw [Nat.testBit_or,Nat.testBit_two_pow];by_cases e:j=i
 ·subst e;rw [Array.getElem?_setIfInBounds_self_of_lt (by rw [h.1]; exact hi)];simp
 ·rw [Array.getElem?_setIfInBounds_ne e,h.2 i hi];simp [e]
theorem D9.Ea {L:Nat} {listed:Array Bool} (h:D9 ops L listed) {i:Nat} (hi:i < ops.size) (b:Bool):listed.getD i b=L.testBit i:=by
 rw [aa0,h.2 i hi]; rfl
theorem se {L:Nat} {listed:Array Bool} (h:D9 ops L listed) {j:Nat} {o:Oper} (ho:ops[j]?=some o) (h1:L.testBit j=false) (h2:((kJ ops o).pr.all fun e=>L.testBit e)=true)
  (cm:∀ e∈o.after,aag .any e=true→e.on < ops.size):j∈aac .any ops listed:=by
 have hj:j < ops.size:=(aae.1 ho).1;refine mem_ready.2 ⟨by rw [h.Ea hj]; exact h1,o,ho,fun e he hb=>?_⟩;rw [h.Ea (cm e he hb)];exact aad.1 h2 e.on (jh.2 ⟨e,by simpa using he,hb,rfl⟩)
def V0 (n:Nat) (I:List oe):Bool:=I.all fun x=>x.pr.all fun e=>Nat.blt e n
theorem gM {k:Nat} {o:Oper} (h:ops[k]?=some o):nth (kK ops) k=some (kJ ops o):=by
 rw [bi,kK,List.getElem?_map,aaf,h]; rfl
theorem kL {k:Nat} {o:Oper} (h:ops[k]?=some o):(kK ops)[k]?=some (kJ ops o):=by
 rw [← bi]; exact gM h
theorem qN (h:V0 ops.size (kK ops)=true) {k:Nat} {o:Oper} (ho:ops[k]?=some o):∀ e∈o.after,aag .any e=true→e.on < ops.size:=fun e he hb=>by
 have h1:=aad.1 h (kJ ops o) (List.mem_of_getElem? (kL ho));have h2:=aad.1 h1 e.on (jh.2 ⟨e,by simpa using he,hb,rfl⟩);exact Nat.le_of_ble_eq_true h2
theorem yA {j:Nat} {x:oe} {c:List Nat}:∀ {l:List oe} {i:Nat},D6 j x c i l=true→∀ k y,l[k]?=some y→(aai (i+k) j || jY j y.pr || jY (i+k) c || uG x y)=true
 |[],_,_,k,y,hk=>by simp at hk
 |z :: l,i,h,k,y,hk=>by
  unfold D6 at h;rw [aab] at h;cases k with
  |zero=>simp at hk; subst hk; exact h.1
  |succ k=>
   have:=yA h.2 k y (by simpa using hk);rw [show i+1+k=i+(k+1) by omega] at this;exact this
theorem yB {I:List oe}:∀ {l:List oe} {j:Nat} {cs:List (List Nat)},D7 I j l cs=true→∀ k x c,l[k]?=some x→cs[k]?=some c→x.n=true→D6 (j+k) x c 0 I=true
 |[],_,_,_,k,x,c,hk,_,_=>by simp at hk
 |z :: l,j,[],_,k,x,c,_,hc,_=>by simp at hc
 |z :: l,j,d :: cs,h,k,x,c,hk,hc,hn=>by
  unfold D7 at h;rw [aab] at h;cases k with
  |zero=>
   simp at hk hc;subst hk hc;have:=h.1;rw [hn] at this;simpa using this
  |succ k=>
   have:=yB h.2 k x c (by simpa using hk) (by simpa using hc) hn;rw [show j+1+k=j+(k+1) by omega] at this;exact this
theorem vM:∀ {l:List oe} {i:Nat},yy dw i l=true→∀ k x,l[k]?=some x→∀ a∈dw (i+k),∃ e∈x.pr,e=a∨a∈dw e
 |[],_,_,k,x,hk=>by simp at hk
 |z :: l,i,h,k,x,hk=>by
  unfold yy at h;rw [aab] at h;cases k with
  |zero=>
   simp at hk;subst hk;intro a ha;have h1:=aad.1 h.1 a ha;obtain ⟨e,he,h2⟩:=List.any_eq_true.1 h1;rw [aa1] at h2;refine ⟨e,he,?_⟩;rcases h2 with h2|h2
   ·exact .inl (aah h2)
   ·exact .inr (eV.1 h2)
  |succ k=>
   have:=vM h.2 k x (by simpa using hk);rw [show i+1+k=i+(k+1) by omega] at this;exact this
theorem GG (h:yy dw 0 (kK ops)=true):Bj ops dw:=fun i oi a hi ha=>by
 have h1:=vM h i _ (kL hi) a (by rw [aaZ]; exact ha);obtain ⟨e,he,h2⟩:=h1;obtain ⟨ed,q1,q2,rfl⟩:=jh.1 he;exact ⟨ed,by simpa using q1,q2,h2⟩
theorem pL {L:Nat}:∀ {l:List oe} {i k:Nat},k∈og L i l↔∃ j x,k=i+j∧l[j]?=some x∧L.testBit k=false∧(x.pr.all fun e=>L.testBit e)=true
 |[],i,k=>by simp [og]
 |z :: l,i,k=>by
  have ih:=pL (L:=L) (l:=l) (i:=i+1) (k:=k);have rest:(∃ j x,k=i+1+j∧l[j]?=some x∧L.testBit k=false∧(x.pr.all fun e=>L.testBit e)=true)↔∃ j x,k=i+(j+1)∧(z :: l)[j+1]?=some x∧L.testBit k=false∧(x.pr.all fun e=>L.testBit e)=true:=by
   constructor
   ·rintro ⟨j,x,h1,h2⟩; exact ⟨j,x,by omega,by simpa using h2⟩
   ·rintro ⟨j,x,h1,h2⟩; exact ⟨j,x,by omega,by simpa using h2⟩
  unfold og;cases hc:(!L.testBit i&&z.pr.all fun e=>L.testBit e) with
  |true=>
   simp only [cond_true,aap,ih,rest];rw [aab,aa2] at hc;constructor
   ·rintro (rfl|⟨j,x,h⟩)
    ·exact ⟨0,z,rfl,rfl,hc⟩
    ·exact ⟨j+1,x,h⟩
   ·rintro ⟨j,x,h1,h2⟩;cases j with
    |zero=>exact .inl h1
    |succ j=>exact .inr ⟨j,x,h1,h2⟩
  |false=>
   simp only [cond_false,ih,rest];constructor
   ·rintro ⟨j,x,h⟩; exact ⟨j+1,x,h⟩
   ·rintro ⟨j,x,h1,h2,h3,h4⟩;cases j with
    |zero=>
     simp at h2 h1;subst h1 h2;rw [h3,h4] at hc;cases hc
    |succ j=>exact ⟨j,x,h1,h2,h3,h4⟩
theorem pM {L k:Nat} {x:oe}:∀ {l:List oe} {i:Nat},qM dw L k x i l=true→∀ j y,l[j]?=some y→L.testBit (i+j)=false→qL x y=true→k∈dw (i+j)
 |[],_,_,j,y,hj=>by simp at hj
 |z :: l,i,h,j,y,hj=>by
  unfold qM at h;rw [aab] at h;cases j with
  |zero=>
   simp at hj;subst hj;intro h1 h2;have h3:=h.1;rw [Nat.add_zero] at h1;rw [h1,h2] at h3;exact eV.1 (by simpa using h3)
  |succ j=>
   have:=pM h.2 j y (by simpa using hj);rw [show i+1+j=i+(j+1) by omega] at this;exact this
theorem vN {L:Nat} {listed:Array Bool} (hM:D9 ops L listed) {C C':List Nat} (h:wV (kK ops) dw L C C'=true):∀ k∈C,k∈C'∨∀ i ok oi,ops[k]?=some ok→ops[i]?=some oi→listed.getD i true=false→jC ok oi=true→k∈dw i:=fun k hk=>by
 have h1:=aad.1 h k hk;rw [aa1] at h1;rcases h1 with h1|h1
 ·exact .inl (eV.1 h1)
 ·refine .inr fun i ok oi q1 q2 q3 q4=>?_
  rw [gM q1] at h1;have hi:i < ops.size:=(aae.1 q2).1;have:=pM h1 i _ (kL q2) (by rw [aaZ,← hM.Ea hi]; exact q3) q4;rw [aaZ] at this;exact this
theorem Bn {C:List Nat} (h:Ii (kK ops) C=true):NC ops C:=fun k hk ok eN=>by
 have:=aad.1 h k hk;rw [gM eN] at this;exact this
theorem yC {L j:Nat} {x:oe} {W:List Nat}:∀ {l:List oe} {i:Nat},Ih dw L W j x i l=true→∀ k y,l[k]?=some y→(aai (i+k) j || L.testBit (i+k) || jY j (dw (i+k)) || (uG x y&&y.lo.all fun e=>jY e W))=true
 |[],_,_,k,y,hk=>by simp at hk
 |z :: l,i,h,k,y,hk=>by
  unfold Ih at h;rw [aab] at h;cases k with
  |zero=>simp at hk; subst hk; exact h.1
  |succ k=>
   have:=yC h.2 k y (by simpa using hk);rw [show i+1+k=i+(k+1) by omega] at this;exact this
theorem yD {d:Nat} {s:bj}:∀ {l:List Nat},Ie d s l=true→∀ e∈l,∀ off,lk s e≠.lp d off
 |[],_,e,he,_=>by cases he
 |a :: l,h,e,he,off=>by
  unfold Ie at h;rw [aab] at h;rcases aap.1 he with rfl|he
  ·intro hv;have h1:=h.1;rw [hv] at h1;simp only [sT] at h1;cases h1
  ·exact yD h.2 e he off
theorem pN {cf:List (List Nat)} (hA:Bj ops dw) (hP:V0 ops.size (kK ops)=true) (hF:D7 (kK ops) 0 (kK ops) cf=true) (hK:Inv K):∀ (T:DT) (n:Nat) (C:List Nat) (listed:Array Bool) (L:Nat),NC ops C→od dw listed→D9 ops L listed →
  (lB (kK ops) (2 ^ ops.size - 1) dw cf T n C L none=true→∀ s,ua E f ops.toList T K s→fH E f ops dw C K n listed s) ∧
  (∀ m l,n=m+1→lB (kK ops) (2 ^ ops.size - 1) dw cf T n C L (some l)=true→∀ s,ua E f ops.toList T K s→∀ i∈l,i∈aac .any ops listed→∀ oi,ops[i]?=some oi →
   cw E f ops.toList oi (fun s'=>JK E f ops dw C i s'∧fH E f ops dw C K m (listed.setIfInBounds i true) s') s)
 |.done,n,C,listed,L,hC,jo,hM=>by
  refine ⟨fun h s hs=>?_,fun m l _ h=>by simp [lB] at h⟩;have hL:L=2 ^ ops.size - 1:=aah (by simpa only [lB] using h);have hr:aac .any ops listed=[]:=by
   apply List.eq_nil_iff_forall_not_mem.2;intro j hj;obtain ⟨h1,o,ho,_⟩:=mem_ready.1 hj;have cm:j < ops.size:=(aae.1 ho).1;rw [hM.Ea cm,hL,Nat.testBit_two_pow_sub_one] at h1;simp [cm] at h1
  cases n with
  |zero=>exact ⟨hr,hs⟩
  |succ n=>exact ⟨fun _=>hs,fun i hi=>by rw [hr] at hi; simp at hi⟩
 |.stop,n,C,listed,L,hC,jo,hM=>by
  refine ⟨fun h=>by cases n <;> simp [lB] at h,fun m l e h s _ i hi=>?_⟩;subst e;have:l=[]:=by simpa [lB] using h
  rw [this] at hi;simp at hi
 |.al j W T,0,C,listed,L,hC,jo,hM=>⟨fun h=>by simp [lB] at h,fun m l e=>by cases e⟩
 |.al j W T,n+1,C,listed,L,hC,jo,hM=>by
  refine ⟨fun h s hs=>?_,fun m l _ h=>by simp [lB] at h⟩;unfold lB at h;split at h
  ·rename_i x hx;obtain ⟨oj,hj,rfl⟩:=tx hx;split at h
   ·cases h
   ·rename_i d hd;simp only [oh,aab] at h;obtain ⟨⟨⟨⟨⟨hCe,wF⟩,hbit⟩,hpr⟩,xQ⟩,hT⟩:=h;have hCe:C=[]:=by simpa using hCe
    subst hCe;have wF:b6 oj.op=true:=wF;have hd:oj.dst=some d:=hd;have yF:j∈aac .any ops listed:=se hM hj (by simpa using hbit) hpr (qN hP hj);obtain ⟨ih,_⟩:=pN hA hP hF hK T n [] (listed.setIfInBounds j true) (L ||| 2 ^ j) (fun k hk=>by cases hk) (jo.add hA yF) (hM.add j);unfold ua at hs;rw [bi,aaf,hj] at hs;simp only at hs;obtain ⟨eN,hs⟩:=hs;unfold VY at eN;split at eN
    ·rename_i _ d' hg HP;rw [hd] at HP;cases HP;rw [aab] at eN;have VX:E.BZ f d=false:=by simpa using eN.1
     have Vj:cw E f ops.toList oj (fH E f ops dw [] K n (listed.setIfInBounds j true)) s:=cz hs fun s' h'=>ih hT s' h'
     unfold cw at Vj;rw [hg] at Vj;obtain ⟨s1,q1,q2⟩:=(Ib wF).1 Vj;refine LV hA hK hj hg hd wF VX n listed s s1 jo (fun i oi hi cS LS uz=>?_) yF q1 q2;have fR:=yC xQ i _ (kL hi);rw [aaZ] at fR;simp only [aa1] at fR;have V1:i < ops.size:=(aae.1 hi).1;rcases fR with ((h1|h1)|h1)|h1
     ·exact absurd (aah h1) cS
     ·rw [hM.Ea V1,h1] at LS; cases LS
     ·exact absurd (eV.1 h1) uz
     ·rw [aab] at h1;exact ⟨Bm h1.1,fun e he off=>yD eN.2 e (eV.1 (aad.1 h1.2 e he)) off⟩
    ·cases eN
  ·cases h
 |.take j C' T,0,C,listed,L,hC,jo,hM=>⟨fun h=>by simp [lB] at h,fun m l e=>by cases e⟩
 |.take j C' T,n+1,C,listed,L,hC,jo,hM=>by
  refine ⟨fun h s hs=>?_,fun m l _ h=>by simp [lB] at h⟩;unfold lB at h;split at h
  ·rename_i x c hx hc;obtain ⟨oj,hj,rfl⟩:=tx hx;split at h
   ·cases h
   ·rename_i d hd;simp only [oh,aab] at h;obtain ⟨⟨⟨⟨⟨⟨⟨hN,D3⟩,hCd⟩,hcf⟩,hbit⟩,hpr⟩,oX⟩,V2,hT⟩:=h;have hN:tZ oj.op=true:=hN;have hd:oj.dst=some d:=hd;have yF:j∈aac .any ops listed:=se hM hj (by simpa using hbit) hpr (qN hP hj);have YW:∀ {d:Nat} {l:List Nat},(!jY d l)=true→d∉l:=fun h hm=>by rw [eV.2 hm] at h; cases h
    have V3:d∉oj.looksAt ops:=YW D3;have aeq:∀ k∈C,∀ ok,ops[k]?=some ok→d∉ok.looksAt ops∧ok.dst≠some d:=fun k hk ok eN=>by
     have:=aad.1 hCd k hk;rw [gM eN] at this;simp only [aab] at this;refine ⟨YW this.1,fun e=>?_⟩;have h2:=this.2;simp only [kJ,e,sT] at h2;cases h2
    have Pn:NC ops (j :: C):=fun k hk ok ho=>by
     rcases aap.1 hk with rfl|hk
     ·rw [hj] at ho; cases ho; exact hN
     ·exact hC k hk ok ho
    have aer:=jo.add hA yF;obtain ⟨ih,_⟩:=pN hA hP hF hK T n C' (listed.setIfInBounds j true) (L ||| 2 ^ j) (Bn oX) aer (hM.add j);unfold ua at hs;rw [bi,aaf,hj] at hs;simp only at hs;have Vj:cw E f ops.toList oj (fH E f ops dw (j :: C) K n (listed.setIfInBounds j true)) s:=cz hs fun s' h'=>oa n _ _ (vN (hM.add j) V2) (ih hT s' h')
    obtain ⟨x,oW,hk⟩:=yt hN (iC Pn hK _ _) Vj;rw [hd] at hk;refine GF hA hC hK hj hN hd V3 aeq n listed s x jo (fun i oi hi cS LS uz=>?_) yF oW hk;have xQ:=yB hF j _ c (kL hj) (by rw [← bi]; exact hc) hN;have fR:=yA xQ i _ (kL hi);rw [aaZ,aaZ] at fR;simp only [aa1] at fR;have V1:i < ops.size:=(aae.1 hi).1;rcases fR with ((h1|h1)|h1)|h1
    ·exact absurd (aah h1) cS
    ·obtain ⟨e,q1,q2,q3⟩:=jh.1 (eV.1 h1);exact absurd q3 (uz e (by simpa using q1) q2)
    ·have:=aad.1 hcf i (eV.1 h1);rw [hM.Ea V1,this] at LS;cases LS
    ·exact Bm h1
  ·cases h
 |.br i re C' T more,0,C,listed,L,hC,jo,hM=>⟨fun h=>by simp [lB] at h,fun m l e=>by cases e⟩
 |.br i re C' T more,n+1,C,listed,L,hC,jo,hM=>by
  have main:∀ left l,(match left with | none=>og L 0 (kK ops) | some l=>l)=l→lB (kK ops) (2 ^ ops.size - 1) dw cf (.br i re C' T more) (n+1) C L left=true→∀ s,ua E f ops.toList (.br i re C' T more) K s→i∈l∧∀ k∈l,k∈aac .any ops listed→∀ ok,ops[k]?=some ok →
    cw E f ops.toList ok (fun s'=>JK E f ops dw C k s'∧fH E f ops dw C K n (listed.setIfInBounds k true) s') s:=by
   intro left l hl h s hs;unfold lB at h;split at h
   ·cases h
   ·rename_i y hy;obtain ⟨oi,tw,rfl⟩:=tx hy;have h:(Ut (kK ops) dw C re i (kJ ops oi)&&Ii (kK ops) C'&&jY i l&&(wV (kK ops) dw (L ||| 2 ^ i) C C'&&lB (kK ops) (2 ^ ops.size - 1) dw cf T n C' (L ||| 2 ^ i) none) &&
     lB (kK ops) (2 ^ ops.size - 1) dw cf more (n+1) C L (some (l.filter fun k=>!aai k i)))=true:=by
     cases left with
     |none=>simp only at hl; subst hl; simp only [yz,oh] at h; exact h
     |some l'=>simp only at hl; subst hl; simp only [oh] at h; exact h
    simp only [aab] at h;obtain ⟨⟨⟨⟨ZR,oX⟩,rr⟩,V2,hT⟩,hmore⟩:=h;unfold ua at hs;refine ⟨eV.1 rr,fun k hk hkr ok eN=>?_⟩;by_cases e:k=i
    ·subst e;rw [tw] at eN;cases eN;obtain ⟨ih,_⟩:=pN hA hP hF hK T n C' (listed.setIfInBounds k true) (L ||| 2 ^ k) (Bn oX) (jo.add hA hkr) (hM.add k);have h1:=hs.1;rw [bi,aaf,tw] at h1;refine cz h1 fun s' h'=>⟨fun c hc oc Us q1 q2 q3 q4=>?_,oa n _ _ (vN (hM.add k) V2) (ih hT s' h'.2)⟩
     rw [tw] at q2;cases q2;have yf:=aad.1 ZR c hc;rw [gM q1] at yf;have q3':qL (kJ ops oc) (kJ ops oi)=true:=q3;simp only [q3',Bool.not_true,Bool.false_or,aa1] at yf;rcases yf with yf|yf
     ·have hm:c∈re:=eV.1 yf;have:∀ (re:List Nat),c∈re→Bl E f ops.toList re s'→Gx E f ops.toList oc s':=by
       intro re
       induction re with
       |nil=>intro hm; simp at hm
       |cons a re ihr=>
        intro hm ha;rcases aap.1 hm with rfl|hm
        ·have:=ha.1;rw [bi,aaf,q1] at this;exact this
        ·exact ihr hm ha.2
      exact this re hm h'.1
     ·exact absurd (eV.1 yf) q4
    ·obtain ⟨_,ih⟩:=pN hA hP hF hK more (n+1) C listed L hC jo hM;refine ih n _ rfl hmore s hs.2 k ?_ hkr ok eN;rw [List.mem_filter];exact ⟨hk,by rw [nS e]; rfl⟩
  refine ⟨fun h s hs=>?_,fun m l e h s hs k hk hkr ok eN=>?_⟩
  ·obtain ⟨m1,m2⟩:=main none _ rfl h s hs;have back:∀ k,k∈og L 0 (kK ops)→k∈aac .any ops listed:=fun k hk=>by
    obtain ⟨j,x,q1,q2,q3,q4⟩:=pL.1 hk;rw [aaZ] at q1;subst q1;rw [← bi] at q2;obtain ⟨o,ho,rfl⟩:=tx q2;exact se hM ho q3 q4 (qN hP ho)
   have aaj:∀ k,k∈aac .any ops listed→k∈og L 0 (kK ops):=fun k hk=>by
    obtain ⟨h1,o,ho,oX⟩:=mem_ready.1 hk;have cm:k < ops.size:=(aae.1 ho).1;refine pL.2 ⟨k,kJ ops o,by omega,kL ho,by rw [← hM.Ea cm]; exact h1,aad.2 fun e he=>?_⟩;obtain ⟨ed,q1,q2,rfl⟩:=jh.1 he;have h2:=oX ed (by simpa using q1) q2;rw [hM.Ea (qN hP ho ed (by simpa using q1) q2)] at h2;exact h2
   refine ⟨fun h0=>?_,fun k hk ok eN=>m2 k (aaj k hk) hk ok eN⟩;have:=back i m1;rw [h0] at this;simp at this
  ·cases e;exact (main (some l) l rfl h s hs).2 k hk hkr ok eN
theorem yG {R:ak} {w:World} {β:Nat→Nat} {F:Fence} {Qc:Exit→Act→World→Prop} {C:List Nat} (hQ:∀ a' w',pH E R w β s K a' w'→Qc .normal a' w') :
  ∀ (n:Nat) (listed:Array Bool) (R1:ak) (w1:World) (β1:Nat→Nat) (s1:St) (a1:Act),bt E R1 w1 β1 s1 a1→Step R w β s.boxes R1 w1 β1 s1.boxes→s1.ro=s.ro→bY R1 s1.ro F →
   fH E f ops dw C K n listed s1→wpAnyIn F 0 E.P .any ops Qc n listed a1 w1
 |0,listed,R1,w1,β1,s1,a1,hr,jz,b9,_,ha=>⟨ha.1,hQ _ _ ⟨s1,R1,β1,ha.2,hr,jz,b9⟩⟩
 |n+1,listed,R1,w1,β1,s1,a1,hr,jz,b9,hf,ha=>by
  refine ⟨fun h0=>hQ _ _ ⟨s1,R1,β1,ha.1 h0,hr,jz,b9⟩,fun i hi=>?_⟩;obtain ⟨_,o,ho,_⟩:=mem_ready.1 hi;unfold wpOpIn;simp only [ho];refine tk hr hf (ha.2 i hi o ho) _ ?_;rintro a' w' ⟨s',R',β',q1,q2,q3,q4⟩;exact yG hQ n _ R' w' β' s' a' q2 (jz.trans q3) (q4.trans b9) (by rw [q4]; exact hf.mono q3.ext) q1.2
theorem fw {K':St→Prop} (hK:∀ s,K s→K' s):∀ (T:DT) (s:St),ua E f ops.toList T K s→ua E f ops.toList T K' s
 |.done,s,h=>hK s h
 |.stop,_,_=>trivial
 |.take j C T,s,h=>by
  unfold ua at h ⊢;split
  ·rename_i oj hj;rw [hj] at h;exact cz h fun s' h'=>fw hK T s' h'
  ·rename_i hj;rw [hj] at h;exact h
 |.al j W T,s,h=>by
  unfold ua at h ⊢;split
  ·rename_i oj hj;rw [hj] at h;exact ⟨h.1,cz h.2 fun s' h'=>fw hK T s' h'⟩
  ·rename_i hj;rw [hj] at h;exact h
 |.br i re C T more,s,h=>by
  unfold ua at h ⊢;refine ⟨?_,fw hK more s h.2⟩;have h:=h.1;split
  ·rename_i oj hj;rw [hj] at h;exact cz h fun s' h'=>⟨h'.1,fw hK T s' h'.2⟩
  ·rename_i hj;rw [hj] at h;exact h
structure af where
 dw:List (List Nat)
 cf:List (List Nat)
 T:DT
def GH (ops:Array Oper) (p:af):Bool:=Ig (ops.toList.map (kJ ops)) fun I=>
 Co ops.size fun n=>Co (2 ^ n - 1) fun N=>yy (LW p.dw) 0 I&&V0 n I&&D7 I 0 I p.cf&&lB I N (LW p.dw) p.cf p.T n [] 0 none
theorem bt.drawn {R:ak} {w:World} {β:Nat→Nat} {a:Act} (h:bt E R w β s a):bt E R { w with drawn:=w.drawn+1 } β s a∧Step R w β s.boxes R { w with drawn:=w.drawn+1 } β s.boxes:=by
 have e:Ext R w R { w with drawn:=w.drawn+1 }:=⟨fun _ _ h=>h,fun _ _ _=>rfl,fun _ ro h=>⟨ro,h,cJ.refl ro⟩,gC.refl w⟩;refine ⟨⟨⟨h.g.len,fun id go ro h1 h2=>(h.g.obj id go ro h1 h2).mono e (fun _ _=>rfl) (fun _ _ _ h=>h),h.g.inj,h.g.wf,fun g cs hg=>(h.g.cr g cs hg).mono e,Nat.le_succ_of_le h.g.lo⟩,?_,h.t.mono e,h.n,h.d⟩,?_⟩
 ·exact h.b.aY e (fun _ _ _=>rfl) (fun _ _ _ _ h=>h) (fun _ _ _ h=>h)
 ·exact ⟨e,rfl,rfl,rfl,Nat.le_refl _,fun _ _ _=>rfl,fun _ _ h=>h,fun _ _ h _ _=>h⟩
theorem fS.draw {id:Nat} {p:af} {Q:Exit→St→Prop} (eN:GH ops p=true) (h:ua E f ops.toList p.T (Q .normal) s):fS E (.region id ops true) Q s:=fun R w β a F hr hf=>by
 simp only [GH,D8,oh,aab] at eN;obtain ⟨⟨⟨hA,hP⟩,hF⟩,hT⟩:=eN;refine wpIn_region_any E.mixed ?_;obtain ⟨q1,q2⟩:=hr.drawn;have hK:Inv (fun s=>∃ u,qI u s∧Q .normal u):=fun s t e ⟨u,h1,h2⟩=>⟨u,h1.trans e,h2⟩
 have h':=fw (K':=fun s=>∃ u,qI u s∧Q .normal u) (fun s h=>⟨s,qI.refl s,h⟩) p.T s h;have jo:od (LW p.dw) (Array.replicate ops.size false):=fun i hi=>by
  rw [aa0,Array.getElem?_replicate] at hi;split at hi <;> cases hi
 have V4:=(pN (E:=E) (f:=f) (GG hA) hP hF hK p.T ops.size [] (Array.replicate ops.size false) 0 (fun k hk=>by simp at hk) jo ⟨by simp,fun i hi=>by simp [hi]⟩).1 hT s h';refine yG (R:=R) (w:=w) (β:=β) (s:=s) (f:=f) (K:=fun s=>∃ u,qI u s∧Q .normal u) ?_ _ _ R _ β s a q1 q2 rfl hf V4;rintro a' w' ⟨s',R',β',⟨u,e,hu⟩,h2,h3,h4⟩;exact ⟨u,R',β',hu,h2.eqv e.symm,h3.eqv rfl e.symm.b,e.ro.trans h4⟩
end
end Go.Am
