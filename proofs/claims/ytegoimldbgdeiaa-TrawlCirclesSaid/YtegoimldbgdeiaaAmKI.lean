/- The abstract machine: regions whose order the tape draws,along a tree of choices that was checked. -/
import Derived.Test.YtegoimldbgdeiaaAmKH
set_option linter.all false
open Array renaming getElem?_eq_some_iff→aat, getElem?_toList→aau, getD_eq_getD_getElem?→aaT, setIfInBounds_comm→aa6
open Bool renaming and_eq_true→aae, or_eq_true→aa0, not_eq_true'→aa3
open Go.Region renaming ready→aal, binds→aav
open List renaming all_eq_true→aas, cons_append→aaA, mem_cons→aaK, nil_append→aaM, mem_cons_of_mem→abd
open Nat renaming eq_of_beq_eq_true→aax, beq→aay, zero_add→aaP
namespace Go.Am
open Go
section
variable {E:Env} {s t:St} {f:FuncId} {ops:Array Oper} {o oj oi:Oper} {d:Tmp} {x:SV} {K K':St→Prop} {eX:Nat→List Nat} {C:List Nat}
def Km (E:Env) (f:FuncId) (ops:Array Oper) (eX:Nat→List Nat) (C:List Nat) (i:Nat) (s:St):Prop:=
 ∀ j∈C,∀ oj oi,ops[j]?=some oj→ops[i]?=some oi→mE oj oi=true→j∉eX i→Lp E f ops.toList oj s
def NC (ops:Array Oper) (C:List Nat):Prop:=∀ j∈C,∀ oj,ops[j]?=some oj→yV oj.op=true
theorem uX {i:Nat} (hC:NC ops C):Inv (Km E f ops eX C i):=fun _ _ e h j hj oj oi h1 h2 h3 h4=>UR (hC j hj oj h1) e (h j hj oj oi h1 h2 h3 h4)
def iY (E:Env) (f:FuncId) (ops:Array Oper) (eX:Nat→List Nat) (C:List Nat) (K:St→Prop):Nat→Array Bool→St→Prop
 |0,listed,s=>aal .any ops listed=[]∧K s
 |n+1,listed,s=>(aal .any ops listed=[]→K s) ∧
   ∀ i∈aal .any ops listed,∀ oi,ops[i]?=some oi→cZ E f ops.toList oi (fun s'=>Km E f ops eX C i s'∧iY E f ops eX C K n (listed.setIfInBounds i true) s') s
theorem kz (hC:NC ops C) (hK:Inv K):∀ n listed,Inv (iY E f ops eX C K n listed)
 |0,_=>fun s t e h=>⟨h.1,hK s t e h.2⟩
 |n+1,_=>fun s t e h=>⟨fun h0=>hK s t e (h.1 h0),fun i hi oi xV=>IM (fun s t e h=>⟨uX hC s t e h.1,kz hC hK n _ s t e h.2⟩) s t e (h.2 i hi oi xV)⟩
theorem sy {C':List Nat}:∀ n (listed:Array Bool) (s:St),
  (∀ k∈C',k∈C∨∀ i ok oi,ops[k]?=some ok→ops[i]?=some oi→listed.getD i true=false→mE ok oi=true→k∈eX i) →
  iY E f ops eX C K n listed s→iY E f ops eX C' K n listed s
 |0,_,_,_,h=>h
 |n+1,listed,s,hk,h=>⟨h.1,fun i hi oi xV=>da (h.2 i hi oi xV) fun s' h'=>⟨fun k Zg ok Xs h1 h2 h3 h4=>by
   rcases hk k Zg with h5|h5
   ·exact h'.1 k h5 ok Xs h1 h2 h3 h4
   ·exact absurd (h5 i ok Xs h1 h2 (mem_ready.1 hi).1 h3) h4,sy n _ s' (fun k Zg=>by
   rcases hk k Zg with h5|h5
   ·exact .inl h5
   ·refine .inr fun i' ok Xs h1 h2 h3 h4=>h5 i' ok Xs h1 h2 ?_ h4
    by_cases e:i=i'
    ·subst e; exact (mem_ready.1 hi).1
    ·rw [getD_set_ne true e] at h3; exact h3) h'.2⟩⟩
def Fx (ops:Array Oper) (eX:Nat→List Nat):Prop:=∀ i oi a,ops[i]?=some oi→a∈eX i→∃ e∈oi.after,aav .any e=true∧(e.on=a∨a∈eX e.on)
def sC (eX:Nat→List Nat) (listed:Array Bool):Prop:=∀ i,listed.getD i false=true→∀ a∈eX i,listed.getD a false=true
theorem sC.ready {listed:Array Bool} (h:sC eX listed) (ha:Fx ops eX) {i:Nat} (hi:i∈aal .any ops listed):∀ a∈eX i,listed.getD a false=true:=fun a haa=>by
 obtain ⟨_,o,ho,xW⟩:=mem_ready.1 hi;obtain ⟨e,he,hb,h2⟩:=ha i o a ho haa;rcases h2 with rfl|h2
 ·exact xW e he hb
 ·exact h _ (xW e he hb) a h2
theorem np {listed:Array Bool} {i:Nat} (h:listed.getD i false=true):listed.getD i true=true:=by
 rw [aaT] at *;cases hl:listed[i]? with
 |none=>rw [hl] at h; cases h
 |some b=>rw [hl] at h; exact h
theorem sC.add {listed:Array Bool} (h:sC eX listed) (ha:Fx ops eX) {i:Nat} (hi:i∈aal .any ops listed):sC eX (listed.setIfInBounds i true):=fun k hk a haa=>by
 by_cases e:i=k
 ·subst e;exact getD_set_true (h.ready ha hi a haa)
 ·rw [getD_set_ne false e] at hk;exact getD_set_true (h k hk a haa)
theorem Lw (hA:Fx ops eX) (hC:NC ops C) (hK:Inv K) {j:Nat} (hj:ops[j]?=some oj) (hN:yV oj.op=true) (M0:oj.dst=some d) (IP:d∉oj.looksAt ops)
  (hCd:∀ k∈C,∀ ok,ops[k]?=some ok→d∉ok.looksAt ops∧ok.dst≠some d):∀ n (listed:Array Bool) (s:St) (x:SV),sC eX listed →
   (∀ i oi,ops[i]?=some oi→i≠j→listed.getD i true=false→(∀ e∈oi.after,aav .any e=true→e.on≠j)→oj.apart ops oi=true) →
   j∈aal .any ops listed→CN E f ops oj s x→iY E f ops eX (j :: C) K n (listed.setIfInBounds j true) (s.put (some d) x)→iY E f ops eX C K (n+1) listed s:=by
 have T9:NC ops (j :: C):=fun k hk ok ho=>by
  rcases aaK.1 hk with rfl|hk
  ·rw [hj] at ho; cases ho; exact hN
  ·exact hC k hk ok ho
 have self:∀ n (listed:Array Bool) (s:St) (x:SV),CN E f ops oj s x→iY E f ops eX (j :: C) K n (listed.setIfInBounds j true) (s.put (some d) x)→∀ oi,ops[j]?=some oi →
   cZ E f ops.toList oi (fun s'=>Km E f ops eX C j s'∧iY E f ops eX C K n (listed.setIfInBounds j true) s') s:=fun n listed s x hx h oi xV=>by
  rw [hj] at xV;cases xV;refine CP hN (fun s t e h=>⟨uX hC s t e h.1,kz hC hK _ _ s t e h.2⟩) hx ?_;rw [M0];refine ⟨fun k _ ok Xs _ h2 h3 _=>?_,sy n _ _ (fun k hk=>.inl (abd _ hk)) h⟩;rw [hj] at h2;cases h2;simp [mE,IK hN,hN] at h3
 intro n
 induction n with
 |zero=>
  intro listed s x _ _ hr hx h;refine ⟨fun h0=>by rw [h0] at hr; simp at hr,fun i hi oi xV=>?_⟩;by_cases e:i=j
  ·subst e; exact self 0 listed s x hx h oi xV
  ·have:=ready_mono hi e;rw [h.1] at this;simp at this
 |succ n ih=>
  intro listed s x mn oG hr hx h;refine ⟨fun h0=>by rw [h0] at hr; simp at hr,fun i hi oi xV=>?_⟩;by_cases e:i=j
  ·subst e; exact self (n+1) listed s x hx h oi xV
  ·have Rm:=(mem_ready.1 hi).1;have UX:=(mem_ready.1 hr).1;have YO:∀ ed∈oi.after,aav .any ed=true→ed.on≠j:=fun ed he hb mm=>by
    obtain ⟨_,o,ho,xW⟩:=mem_ready.1 hi;rw [xV] at ho;cases ho;have h1:=np (xW ed he hb);rw [mm,UX] at h1;cases h1
   have hap:=oG i oi xV e Rm YO;have hG:=h.2 i (ready_mono hi e) oi xV;have Rn:j∉eX i:=fun hm=>by
    have h1:=np (mn.ready hA hi j hm);rw [UX] at h1;cases h1
   have hKi:Inv (fun s'=>Km E f ops eX (j :: C) i s'∧iY E f ops eX (j :: C) K n ((listed.setIfInBounds j true).setIfInBounds i true) s'):=
    fun s t e h=>⟨uX T9 s t e h.1,kz T9 hK _ _ s t e h.2⟩
   have Zh:∀ k ok,ops[k]?=some ok→k≠j→(listed.setIfInBounds i true).getD k true=false→(∀ e∈ok.after,aav .any e=true→e.on≠j)→oj.apart ops ok=true:=fun k ok hk hkj hku wy=>by
    refine oG k ok hk hkj ?_ wy;by_cases e':i=k
    ·subst e'; exact Rm
    ·rw [getD_set_ne true e'] at hku; exact hku
   have core:∀ {pre:bp} {preB:dy} {G:List GO},Pre (cN oi.op) oi.dst pre→(yV oi.op=true→preB=[]∧G=s.G) →
     (Km E f ops eX (j :: C) i ((s.put (some d) x).iy pre preB G)∧iY E f ops eX (j :: C) K n ((listed.setIfInBounds j true).setIfInBounds i true) ((s.put (some d) x).iy pre preB G)) →
     Km E f ops eX C i (s.iy pre preB G)∧iY E f ops eX C K (n+1) (listed.setIfInBounds i true) (s.iy pre preB G):=by
    intro pre preB G IQ hNi hk;obtain ⟨x',vH,kT⟩:=O7 hN M0 IP hap hKi hx IQ hNi hk (fun t' ES hd=>ES.1 j (List.mem_cons_self ..) oj oi hj xV hd Rn);refine ⟨fun k Zg ok Xs h1 h2 h3 h4=>?_,?_⟩
    ·obtain ⟨q1,q2⟩:=hCd k Zg ok h1;obtain ⟨b1,b2,b3,_⟩:=jj (s.iy pre preB G) (some d) x';exact UQ (hC k Zg ok h1) q1 q2 (fun e he=>BE _ _ _ he) (by rw [b1]) b2 b3 (kT.1 k (abd _ Zg) ok Xs h1 h2 h3 h4)
    ·refine ih (listed.setIfInBounds i true) _ x' (mn.add hA hi) Zh (ready_mono hr (Ne.symm e)) vH ?_;rw [aa6 _ _ e];exact kT.2
   rw [ji (fun s t e h=>⟨uX hC s t e h.1,kz hC hK _ _ s t e h.2⟩)];obtain ⟨T2,_,_⟩:=Oper.apart_spec hap;have An:∀ e∈oi.looksAt ops,lk (s.put (some d) x).af e=lk s.af e:=fun e he=>BE s d x fun k=>T2 d M0 (k ▸ he)
   obtain ⟨b1,b2,b3,b4,b5⟩:=jj s (some d) x;rcases (ji hKi).1 hG with ⟨h1,h2⟩|⟨h1,h2⟩
   ·refine .inl ⟨by rw [← om An]; exact h1,zC b3 b2 (by rw [b1]) (oK An) h2 fun pre preB G hp hNi hk=>core hp (fun hh=>?_) hk⟩;obtain ⟨q1,q2⟩:=hNi hh;exact ⟨q1,by rw [q2,b2]⟩
   ·refine .inr ⟨by rw [← om An]; exact h1,?_⟩;obtain ⟨pre,preB,G,p1,p2,p3,p4⟩:=cC.put (s:=s.put (some d) x) (t:=s) (al:=cN oi.op) (w:=false) b3 b2 oi.dst (.v jd);obtain ⟨q1,q2,_⟩:=p2 rfl;rw [p3] at h2;rw [p4];exact core p1 (fun _=>⟨q1,by rw [q2,b2]⟩) h2
theorem M4 {i:Nat} {s:St}:Km E f ops eX [] i s:=fun j hj=>by cases hj
theorem Zi {y:Operand} {k off:Nat} (h:bJ E s.af y=.lp k off):∃ e,y=.tmp e∧lk s.af e=.lp k off:=by
 cases y with
 |tmp e=>exact ⟨e,rfl,h⟩
 |const v=>simp only [bJ] at h; split at h <;> cases h
 |global g=>simp only [bJ] at h; split at h <;> cases h
 |func g=>cases h
theorem Ro (hA:Fx ops eX) (hK:Inv K) {j:Nat} (hj:ops[j]?=some oj) (hg:oj.guard=none) (M0:oj.dst=some d) (O9:cN oj.op=true) (Zj:E.B7 f d=false):∀ n (listed:Array Bool) (s s1:St),sC eX listed →
  (∀ i oi,ops[i]?=some oi→i≠j→listed.getD i true=false→j∉eX i→oj.apart ops oi=true∧∀ e∈oi.looksAt ops,∀ off,lk s.af e≠.lp d off) →
  j∈aal .any ops listed→an E f s oj=some (true,s1)→iY E f ops eX [] K n (listed.setIfInBounds j true) s1→iY E f ops eX [] K (n+1) listed s:=by
 have T9:NC ops []:=fun k hk=>by cases hk
 have self:∀ n (listed:Array Bool) (s s1:St),an E f s oj=some (true,s1)→iY E f ops eX [] K n (listed.setIfInBounds j true) s1→∀ oi,ops[j]?=some oi →
   cZ E f ops.toList oi (fun s'=>Km E f ops eX [] j s'∧iY E f ops eX [] K n (listed.setIfInBounds j true) s') s:=fun n listed s s1 hx h oi xV=>by
  rw [hj] at xV;cases xV;unfold cZ;rw [hg];exact (M3 O9).2 ⟨s1,hx,M4,h⟩
 intro n
 induction n with
 |zero=>
  intro listed s s1 _ _ hr hx h;refine ⟨fun h0=>by rw [h0] at hr; simp at hr,fun i hi oi xV=>?_⟩;by_cases e:i=j
  ·subst e; exact self 0 listed s s1 hx h oi xV
  ·have:=ready_mono hi e;rw [h.1] at this;simp at this
 |succ n ih=>
  intro listed s s1 mn oG hr hx h;refine ⟨fun h0=>by rw [h0] at hr; simp at hr,fun i hi oi xV=>?_⟩;by_cases e:i=j
  ·subst e; exact self (n+1) listed s s1 hx h oi xV
  ·have Rm:=(mem_ready.1 hi).1;have UX:=(mem_ready.1 hr).1;have Rn:j∉eX i:=fun hm=>by
    have h1:=np (mn.ready hA hi j hm);rw [UX] at h1;cases h1
   obtain ⟨hap,wy⟩:=oG i oi xV e Rm Rn;obtain ⟨T2,du,Bb⟩:=Oper.apart_spec hap;have K0:oi.dst≠some d:=du d M0;obtain ⟨_,cs,rfl,Fm⟩:=Lu O9 M0 Zj hx;have hG:=h.2 i (ready_mono hi e) oi xV;have hKi:Inv (fun s'=>Km E f ops eX [] i s'∧iY E f ops eX [] K n ((listed.setIfInBounds j true).setIfInBounds i true) s'):=
    fun s t e h=>⟨uX T9 s t e h.1,kz T9 hK _ _ s t e h.2⟩
   have Pd:∀ y∈oi.op.operands,∀ off,bJ E s.af y≠.lp d off:=fun y hy off hv=>by
    obtain ⟨e',rfl,hv⟩:=Zi hv;exact wy e' (sx hy) off hv
   have core:∀ {pre:bp} {preB:dy} {G:List GO},ky E s oi (s.iy pre preB G) →
     (Km E f ops eX [] i ((wH s d cs).iy pre preB G)∧iY E f ops eX [] K n ((listed.setIfInBounds j true).setIfInBounds i true) ((wH s d cs).iy pre preB G)) →
     Km E f ops eX [] i (s.iy pre preB G)∧iY E f ops eX [] K (n+1) (listed.setIfInBounds i true) (s.iy pre preB G):=by
    intro pre preB G UW hk;refine ⟨M4,?_⟩;obtain ⟨o1,o2⟩:=M2 UW;have An:∀ e' off,oi.dst≠some e'∨lk (s.iy pre preB G).af e'=.lp d off→lk (s.iy pre preB G).af e'=.lp d off→lk s.af e'=.lp d off:=by
     intro e' off _ hv;have hv:lk (pre++s.af) e'=.lp d off:=hv;rcases o1 with rfl|⟨d',x,MK,hp,UY⟩
     ·exact hv
     ·have vH:∀ off,x≠.lp d off:=fun off c=>by
       rcases UY d off c with ⟨y,hy,jP,ho⟩|⟨_,h⟩
       ·exact Pd y hy jP ho
       ·exact K0 (by rw [MK,h])
      by_cases c2:d'=e'
      ·subst c2;rcases hp with rfl|rfl
       ·simp only [aaA,aaM,aG] at hv; exact absurd hv (vH off)
       ·simp only [aaA,aaM,aG] at hv; exact absurd hv (vH off)
      ·rcases hp with rfl|rfl
       ·simp only [aaA,aaM] at hv; rwa [aX c2] at hv
       ·simp only [aaA,aaM] at hv;rw [aX c2,mF] at hv;cases hl:lk s.af e' with
        |lp k jP=>
         rw [hl] at hv;simp only at hv;cases hb:aay k d' with
         |true=>rw [hb] at hv; cases hv
         |false=>rw [hb] at hv; exact hv
        |v a=>rw [hl] at hv; cases hv
        |none=>rw [hl] at hv; cases hv
    refine ih (listed.setIfInBounds i true) _ _ (mn.add hA hi) ?_ (ready_mono hr (Ne.symm e)) (Fm (s.iy pre preB G) rfl ?_) ?_
    ·intro k ok kT hkj hku ahH;have ahI:listed.getD k true=false:=by
      by_cases e':i=k
      ·subst e'; exact Rm
      ·rw [getD_set_ne true e'] at hku; exact hku
     obtain ⟨q1,q2⟩:=oG k ok kT hkj ahI ahH;exact ⟨q1,fun e' Qn off hv=>q2 e' Qn off (An e' off (.inr hv) hv)⟩
    ·intro y hy v hv;cases y with
     |tmp e'=>
      have MK:oi.dst≠some e':=fun c=>Bb e' c (sx hy)
      have hv:lk s.af e'=.v v:=hv;show lk (pre++s.af) e'=.v v;rcases o1 with rfl|⟨d',x,Y7,hp,_⟩
      ·exact hv
      ·have c2:d'≠e':=fun c=>MK (by rw [Y7,c])
       rcases hp with rfl|rfl
       ·simp only [aaA,aaM]; rw [aX c2]; exact hv
       ·simp only [aaA,aaM];rw [aX c2,CR (fun off=>by rw [hv]; intro c; cases c)]; exact hv
     |const _=>exact hv
     |global _=>exact hv
     |func _=>exact hv
    ·rw [aa6 _ _ e];exact kz T9 hK _ _ _ _ (Pc cs UW K0 Pd) hk.2
   have GZ:∀ e'∈oi.looksAt ops,lk (wH s d cs).af e'=lk s.af e':=fun e' Qn=>by
    have c1:d≠e':=fun c=>T2 d M0 (c ▸ Qn)
    show lk (.put d (.lp d 0) :: .kill d :: s.af) e'=_;rw [aX c1,CR (wy e' Qn)]
   have KV:∀ k off,(∃ y∈oi.op.operands,bJ E (wH s d cs).af y=.lp k off)→eJ (wH s d cs).boxes k=eJ s.boxes k:=by
    rintro k off ⟨y,hy,hv⟩;rw [oK GZ y hy] at hv;have TT:d≠k:=fun c=>Pd y hy off (by rw [c]; exact hv)
    show eJ ((d,cs) :: s.boxes) k=eJ s.boxes k;simp only [eJ];cases hb:aay d k with
    |true=>exact absurd (aax hb) TT
    |false=>rfl
   rw [ji (fun s t e h=>⟨uX T9 s t e h.1,kz T9 hK _ _ s t e h.2⟩)];rcases (ji hKi).1 hG with ⟨h1,h2⟩|⟨h1,h2⟩
   ·exact .inl ⟨by rw [← om GZ]; exact h1,Lv (s:=wH s d cs) (t:=s) rfl rfl KV (oK GZ) h2 fun pre preB G hO hk=>core hO hk⟩
   ·refine .inr ⟨by rw [← om GZ]; exact h1,?_⟩;obtain ⟨pre,preB,G,p1,p2,p3,p4⟩:=cC.put (s:=wH s d cs) (t:=s) (al:=cN oi.op) (w:=false) rfl rfl oi.dst (.v jd);rw [p3] at h2;have hO:ky E s oi (s.put oi.dst (.v jd)):=nE rfl rfl _;rw [p4] at hO ⊢;exact core hO h2
end
inductive DT where
 |done
 |take (j:Nat) (C:List Nat) (t:DT)
 |br (i:Nat) (re C:List Nat) (t:DT) (more:DT)
 |stop
 |al (j:Nat) (W:List Nat) (t:DT)
structure sD where
 dst:Option Tmp
 lo:List Tmp
 pr:List Nat
 n:Bool
 r:Bool
 a:Bool
def M5 (d:Nat) (s:bp):List Nat→Bool
 |[]=>true
 |e :: l=>(match lk s e with
  |.lp k _=>!aay k d
  |_=>true)&&M5 d s l
def Zk (E:Env) (f:FuncId) (o:Oper) (W:List Nat) (s:St):Bool:=match o.guard,o.dst with
 |none,some d=>!E.B7 f d&&M5 d s.af W
 |_,_=>false
def nq (x:Nat):List Nat→Bool
 |[]=>false
 |y :: l=>aay x y || nq x l
def uY:List Edge→List Nat
 |[]=>[]
 |e :: l=>bif aav .any e then e.on :: uY l else uY l
def oL (ops:Array Oper) (o:Oper):sD:=⟨o.dst,o.looksAt ops,uY o.after.toList,yV o.op,Zf o.op,cN o.op⟩
def G3 {α:Type} (n:Nat) (K:Nat→α):α:=match n with
 |0=>K 0
 |m+1=>K (Nat.succ m)
def Fy {α:Type}:List Nat→(List Nat→α)→α
 |[],K=>K []
 |a :: l,K=>G3 a fun a=>Fy l fun l=>K (a :: l)
def Zl {α:Type} (i:sD) (K:sD→α):α:=match i with
 |⟨d,lo,pr,n,r,a⟩=>Fy lo fun lo=>Fy pr fun pr=>(match d with
  |none=>(fun (K:Option Tmp→α)=>K none)
  |some d=>(fun (K:Option Tmp→α)=>G3 d fun d=>K (some d))) fun d=>(bif n then (fun (K:Bool→α)=>K true) else fun K=>K false) fun n=>
   (bif r then (fun (K:Bool→α)=>K true) else fun K=>K false) fun r=>(bif a then (fun (K:Bool→α)=>K true) else fun K=>K false) fun a=>K ⟨d,lo,pr,n,r,a⟩
def M6 {α:Type}:List sD→(List sD→α)→α
 |[],K=>K []
 |i :: l,K=>Zl i fun i=>M6 l fun l=>K (i :: l)
def zE (x y:sD):Bool:=
 (match x.dst with
 |some d=>!nq d y.lo&&(match y.dst with | some e=>!aay e d | none=>true)
 |none=>true) &&
 (match y.dst with
 |some d=>!nq d x.lo
 |none=>true)
def IS (j:Nat) (x:sD) (cf:List Nat):Nat→List sD→Bool
 |_,[]=>true
 |i,y :: l=>(aay i j || nq j y.pr || nq i cf || zE x y)&&IS j x cf (i+1) l
def IT (I:List sD):Nat→List sD→List (List Nat)→Bool
 |_,[],_=>true
 |j,x :: l,c :: cs=>(!x.n || IS j x c 0 I)&&IT I (j+1) l cs
 |_,_,_=>false
def CS (eX:Nat→List Nat):Nat→List sD→Bool
 |_,[]=>true
 |i,x :: l=>(eX i).all (fun a=>x.pr.any fun e=>aay e a || nq a (eX e))&&CS eX (i+1) l
def sE (L:Nat):Nat→List sD→List Nat
 |_,[]=>[]
 |i,x :: l=>bif !L.testBit i&&x.pr.all (fun e=>L.testBit e) then i :: sE L (i+1) l else sE L (i+1) l
def uZ (x y:sD):Bool:=y.a || (x.r&&!y.n)
def va (eX:Nat→List Nat) (L k:Nat) (x:sD):Nat→List sD→Bool
 |_,[]=>true
 |i,y :: l=>(L.testBit i || !uZ x y || nq k (eX i))&&va eX L k x (i+1) l
def BF (I:List sD) (eX:Nat→List Nat) (L:Nat) (C C':List Nat):Bool:=C.all fun k=>nq k C' || match nth I k with
 |none=>false
 |some x=>va eX L k x 0 I
def Xt (I:List sD) (eX:Nat→List Nat) (C re:List Nat) (i:Nat) (y:sD):Bool:=C.all fun k=>nq k re || match nth I k with
 |none=>false
 |some x=>!uZ x y || nq k (eX i)
def M7 (eX:Nat→List Nat) (L:Nat) (W:List Nat) (j:Nat) (x:sD):Nat→List sD→Bool
 |_,[]=>true
 |i,y :: l=>(aay i j || L.testBit i || nq j (eX i) || (zE x y&&y.lo.all fun e=>nq e W))&&M7 eX L W j x (i+1) l
def M8 (I:List sD) (C:List Nat):Bool:=C.all fun k=>match nth I k with
 |some x=>x.n
 |none=>false
def pQ (I:List sD) (N:Nat) (eX:Nat→List Nat) (cf:List (List Nat)):DT→Nat→List Nat→Nat→Option (List Nat)→Bool
 |.done,_,_,L,none=>aay L N
 |.take j C' t,n+1,C,L,none=>match nth I j,nth cf j with
  |some x,some c=>match x.dst with
   |none=>false
   |some d=>x.n&&!nq d x.lo&&(C.all fun k=>match nth I k with
     |none=>false
     |some y=>!nq d y.lo&&(match y.dst with | some e=>!aay e d | none=>true)) &&
    c.all (fun i=>L.testBit i)&&!L.testBit j&&x.pr.all (fun e=>L.testBit e)&&M8 I C' &&
    G3 (L ||| 2 ^ j) fun L'=>BF I eX L' (j :: C) C'&&pQ I N eX cf t n C' L' none
  |_,_=>false
 |.br i re C' t more,n+1,C,L,left=>match nth I i with
  |none=>false
  |some y=>(match left with
   |none=>fun (K:List Nat→Bool)=>Fy (sE L 0 I) K
   |some l=>fun K=>K l) fun l=>
    Xt I eX C re i y&&M8 I C'&&nq i l&&(G3 (L ||| 2 ^ i) fun L'=>BF I eX L' C C'&&pQ I N eX cf t n C' L' none) &&
     pQ I N eX cf more (n+1) C L (some (l.filter fun k=>!aay k i))
 |.stop,_,_,_,some l=>l.isEmpty
 |.al j W t,n+1,C,L,none=>match nth I j with
  |some x=>match x.dst with
   |none=>false
   |some _=>C.isEmpty&&x.a&&!L.testBit j&&x.pr.all (fun e=>L.testBit e)&&M7 eX L W j x 0 I&&G3 (L ||| 2 ^ j) fun L'=>pQ I N eX cf t n [] L' none
  |none=>false
 |_,_,_,_,_=>false
def Fz (E:Env) (f:FuncId) (ops:List Oper):List Nat→St→Prop
 |[],_=>True
 |k :: l,s=>(match nth ops k with
  |some ok=>Lp E f ops ok s
  |none=>True)∧Fz E f ops l s
def yW (E:Env) (f:FuncId) (ops:List Oper):DT→(St→Prop)→St→Prop
 |.done,K,s=>K s
 |.take j _ t,K,s=>match nth ops j with
  |some oj=>cZ E f ops oj (yW E f ops t K) s
  |none=>False
 |.br i re _ t more,K,s=>(match nth ops i with
  |some oi=>cZ E f ops oi (fun s'=>Fz E f ops re s'∧yW E f ops t K s') s
  |none=>False)∧yW E f ops more K s
 |.stop,_,_=>True
 |.al j W t,K,s=>match nth ops j with
  |some oj=>Zk E f oj W s=true∧cZ E f ops oj (yW E f ops t K) s
  |none=>False
def Rp (l:List (List Nat)) (i:Nat):List Nat:=match nth l i with
 |some a=>a
 |none=>[]
section
variable {E:Env} {s t:St} {f:FuncId} {ops:Array Oper} {K:St→Prop} {eX:Nat→List Nat}
theorem gM {x:Nat}:∀ {l:List Nat},nq x l=true↔x∈l
 |[]=>by simp [nq]
 |y :: l=>by simp [nq,gM (l:=l)]
theorem sF {α:Type} (n:Nat) (K:Nat→α):G3 n K=K n:=by cases n <;> rfl
theorem CT {α:Type}:∀ (l:List Nat) (K:List Nat→α),Fy l K=K l
 |[],_=>rfl
 |a :: l,K=>by simp only [Fy,sF]; rw [CT]
theorem UZ {α:Type} (i:sD) (K:sD→α):Zl i K=K i:=by
 obtain ⟨d,lo,pr,n,r,a⟩:=i;cases d <;> cases n <;> cases r <;> cases a <;> simp [Zl,CT,sF]
theorem IU {α:Type}:∀ (l:List sD) (K:List sD→α),M6 l K=K l
 |[],_=>rfl
 |a :: l,K=>by simp only [M6,UZ]; rw [IU]
def oM (ops:Array Oper):List sD:=ops.toList.map (oL ops)
theorem xX {k:Nat} {x:sD} (h:nth (oM ops) k=some x):∃ o,ops[k]?=some o∧x=oL ops o:=by
 rw [bg,oM,List.getElem?_map,aau] at h;cases ho:ops[k]? with
 |none=>rw [ho] at h; cases h
 |some o=>rw [ho] at h; exact ⟨o,rfl,by simpa using h.symm⟩
theorem lO {e:Nat}:∀ {l:List Edge},e∈uY l↔∃ ed∈l,aav .any ed=true∧ed.on=e
 |[]=>by simp [uY]
 |x :: l=>by
  unfold uY;cases hb:aav .any x with
  |true=>
   simp only [cond_true,aaK,lO (l:=l),exists_eq_or_imp,hb,true_and];constructor
   ·rintro (h|h)
    ·exact .inl h.symm
    ·exact .inr h
   ·rintro (h|h)
    ·exact .inl h.symm
    ·exact .inr h
  |false=>simp only [cond_false,aaK,lO (l:=l),exists_eq_or_imp,hb,false_and,false_or,Bool.false_eq_true]
theorem FA {x y:Oper} (h:zE (oL ops x) (oL ops y)=true):x.apart ops y=true:=by
 have hm:∀ (d:Nat) (l:List Nat),nq d l=false→l.contains d=false:=fun d l h=>by
  cases hc:l.contains d with
  |false=>rfl
  |true=>rw [gM.2 (by simpa using hc)] at h; cases h
 unfold zE at h;unfold Oper.apart;simp only [oL,aae] at h ⊢;refine ⟨?_,?_⟩
 ·cases hx:x.dst with
  |none=>rfl
  |some d=>
   rw [hx] at h;simp only [aae,aa3] at h ⊢;refine ⟨hm _ _ h.1.1,?_⟩;have h2:=h.1.2;cases hy:y.dst with
   |none=>rfl
   |some e=>
    rw [hy] at h2;simp only [aa3] at h2;have:e≠d:=fun k=>by rw [k,xn] at h2; cases h2
    simpa using this
 ·cases hy:y.dst with
  |none=>rfl
  |some d=>
   rw [hy] at h;simp only [aa3] at h ⊢;exact hm _ _ h.2
def IV (ops:Array Oper) (L:Nat) (listed:Array Bool):Prop:=listed.size=ops.size∧∀ i,i < ops.size→listed[i]?=some (L.testBit i)
theorem IV.add {L:Nat} {listed:Array Bool} (h:IV ops L listed) (j:Nat):IV ops (L ||| 2 ^ j) (listed.setIfInBounds j true):=by
 refine ⟨by simp [h.1],fun i hi=>?_⟩;rw [Nat.testBit_or,Nat.testBit_two_pow];by_cases e:j=i
 ·subst e;rw [Array.getElem?_setIfInBounds_self_of_lt (by rw [h.1]; exact hi)];simp
 ·rw [Array.getElem?_setIfInBounds_ne e,h.2 i hi];simp [e]
theorem IV.IW {L:Nat} {listed:Array Bool} (h:IV ops L listed) {i:Nat} (hi:i < ops.size) (b:Bool):listed.getD i b=L.testBit i:=by
 rw [aaT,h.2 i hi]; rfl
theorem wI {L:Nat} {listed:Array Bool} (h:IV ops L listed) {j:Nat} {o:Oper} (ho:ops[j]?=some o) (h1:L.testBit j=false) (h2:((oL ops o).pr.all fun e=>L.testBit e)=true)
  (cI:∀ e∈o.after,aav .any e=true→e.on < ops.size):j∈aal .any ops listed:=by
 have hj:j < ops.size:=(aat.1 ho).1;refine mem_ready.2 ⟨by rw [h.IW hj]; exact h1,o,ho,fun e he hb=>?_⟩;rw [h.IW (cI e he hb)];exact aas.1 h2 e.on (lO.2 ⟨e,by simpa using he,hb,rfl⟩)
def Zm (n:Nat) (I:List sD):Bool:=I.all fun x=>x.pr.all fun e=>Nat.blt e n
theorem jU {k:Nat} {o:Oper} (h:ops[k]?=some o):nth (oM ops) k=some (oL ops o):=by
 rw [bg,oM,List.getElem?_map,aau,h]; rfl
theorem oN {k:Nat} {o:Oper} (h:ops[k]?=some o):(oM ops)[k]?=some (oL ops o):=by
 rw [← bg]; exact jU h
theorem vb (h:Zm ops.size (oM ops)=true) {k:Nat} {o:Oper} (ho:ops[k]?=some o):∀ e∈o.after,aav .any e=true→e.on < ops.size:=fun e he hb=>by
 have h1:=aas.1 h (oL ops o) (List.mem_of_getElem? (oN ho));have h2:=aas.1 h1 e.on (lO.2 ⟨e,by simpa using he,hb,rfl⟩);exact Nat.le_of_ble_eq_true h2
theorem CU {j:Nat} {x:sD} {c:List Nat}:∀ {l:List sD} {i:Nat},IS j x c i l=true→∀ k y,l[k]?=some y→(aay (i+k) j || nq j y.pr || nq (i+k) c || zE x y)=true
 |[],_,_,k,y,hk=>by simp at hk
 |z :: l,i,h,k,y,hk=>by
  unfold IS at h;rw [aae] at h;cases k with
  |zero=>simp at hk; subst hk; exact h.1
  |succ k=>
   have:=CU h.2 k y (by simpa using hk);rw [show i+1+k=i+(k+1) by omega] at this;exact this
theorem CV {I:List sD}:∀ {l:List sD} {j:Nat} {cs:List (List Nat)},IT I j l cs=true→∀ k x c,l[k]?=some x→cs[k]?=some c→x.n=true→IS (j+k) x c 0 I=true
 |[],_,_,_,k,x,c,hk,_,_=>by simp at hk
 |z :: l,j,[],_,k,x,c,_,hc,_=>by simp at hc
 |z :: l,j,d :: cs,h,k,x,c,hk,hc,hn=>by
  unfold IT at h;rw [aae] at h;cases k with
  |zero=>
   simp at hk hc;subst hk hc;have:=h.1;rw [hn] at this;simpa using this
  |succ k=>
   have:=CV h.2 k x c (by simpa using hk) (by simpa using hc) hn;rw [show j+1+k=j+(k+1) by omega] at this;exact this
theorem Ax:∀ {l:List sD} {i:Nat},CS eX i l=true→∀ k x,l[k]?=some x→∀ a∈eX (i+k),∃ e∈x.pr,e=a∨a∈eX e
 |[],_,_,k,x,hk=>by simp at hk
 |z :: l,i,h,k,x,hk=>by
  unfold CS at h;rw [aae] at h;cases k with
  |zero=>
   simp at hk;subst hk;intro a ha;have h1:=aas.1 h.1 a ha;obtain ⟨e,he,h2⟩:=List.any_eq_true.1 h1;rw [aa0] at h2;refine ⟨e,he,?_⟩;rcases h2 with h2|h2
   ·exact .inl (aax h2)
   ·exact .inr (gM.1 h2)
  |succ k=>
   have:=Ax h.2 k x (by simpa using hk);rw [show i+1+k=i+(k+1) by omega] at this;exact this
theorem Lx (h:CS eX 0 (oM ops)=true):Fx ops eX:=fun i oi a hi ha=>by
 have h1:=Ax h i _ (oN hi) a (by rw [aaP]; exact ha);obtain ⟨e,he,h2⟩:=h1;obtain ⟨ed,q1,q2,rfl⟩:=lO.1 he;exact ⟨ed,by simpa using q1,q2,h2⟩
theorem tZ {L:Nat}:∀ {l:List sD} {i k:Nat},k∈sE L i l↔∃ j x,k=i+j∧l[j]?=some x∧L.testBit k=false∧(x.pr.all fun e=>L.testBit e)=true
 |[],i,k=>by simp [sE]
 |z :: l,i,k=>by
  have ih:=tZ (L:=L) (l:=l) (i:=i+1) (k:=k);have rest:(∃ j x,k=i+1+j∧l[j]?=some x∧L.testBit k=false∧(x.pr.all fun e=>L.testBit e)=true)↔∃ j x,k=i+(j+1)∧(z :: l)[j+1]?=some x∧L.testBit k=false∧(x.pr.all fun e=>L.testBit e)=true:=by
   constructor
   ·rintro ⟨j,x,h1,h2⟩; exact ⟨j,x,by omega,by simpa using h2⟩
   ·rintro ⟨j,x,h1,h2⟩; exact ⟨j,x,by omega,by simpa using h2⟩
  unfold sE;cases hc:(!L.testBit i&&z.pr.all fun e=>L.testBit e) with
  |true=>
   simp only [cond_true,aaK,ih,rest];rw [aae,aa3] at hc;constructor
   ·rintro (rfl|⟨j,x,h⟩)
    ·exact ⟨0,z,rfl,rfl,hc⟩
    ·exact ⟨j+1,x,h⟩
   ·rintro ⟨j,x,h1,h2⟩;cases j with
    |zero=>exact .inl h1
    |succ j=>exact .inr ⟨j,x,h1,h2⟩
  |false=>
   simp only [cond_false,ih,rest];constructor
   ·rintro ⟨j,x,h⟩; exact ⟨j+1,x,h⟩
   ·rintro ⟨j,x,h1,h2,h3,h4⟩;cases j with
    |zero=>
     simp at h2 h1;subst h1 h2;rw [h3,h4] at hc;cases hc
    |succ j=>exact ⟨j,x,h1,h2,h3,h4⟩
theorem ua {L k:Nat} {x:sD}:∀ {l:List sD} {i:Nat},va eX L k x i l=true→∀ j y,l[j]?=some y→L.testBit (i+j)=false→uZ x y=true→k∈eX (i+j)
 |[],_,_,j,y,hj=>by simp at hj
 |z :: l,i,h,j,y,hj=>by
  unfold va at h;rw [aae] at h;cases j with
  |zero=>
   simp at hj;subst hj;intro h1 h2;have h3:=h.1;rw [Nat.add_zero] at h1;rw [h1,h2] at h3;exact gM.1 (by simpa using h3)
  |succ j=>
   have:=ua h.2 j y (by simpa using hj);rw [show i+1+j=i+(j+1) by omega] at this;exact this
theorem Ay {L:Nat} {listed:Array Bool} (hM:IV ops L listed) {C C':List Nat} (h:BF (oM ops) eX L C C'=true):∀ k∈C,k∈C'∨∀ i ok oi,ops[k]?=some ok→ops[i]?=some oi→listed.getD i true=false→mE ok oi=true→k∈eX i:=fun k hk=>by
 have h1:=aas.1 h k hk;rw [aa0] at h1;rcases h1 with h1|h1
 ·exact .inl (gM.1 h1)
 ·refine .inr fun i ok oi q1 q2 q3 q4=>?_
  rw [jU q1] at h1;have hi:i < ops.size:=(aat.1 q2).1;have:=ua h1 i _ (oN q2) (by rw [aaP,← hM.IW hi]; exact q3) q4;rw [aaP] at this;exact this
theorem FB {C:List Nat} (h:M8 (oM ops) C=true):NC ops C:=fun k hk ok gJ=>by
 have:=aas.1 h k hk;rw [jU gJ] at this;exact this
theorem CW {L j:Nat} {x:sD} {W:List Nat}:∀ {l:List sD} {i:Nat},M7 eX L W j x i l=true→∀ k y,l[k]?=some y→(aay (i+k) j || L.testBit (i+k) || nq j (eX (i+k)) || (zE x y&&y.lo.all fun e=>nq e W))=true
 |[],_,_,k,y,hk=>by simp at hk
 |z :: l,i,h,k,y,hk=>by
  unfold M7 at h;rw [aae] at h;cases k with
  |zero=>simp at hk; subst hk; exact h.1
  |succ k=>
   have:=CW h.2 k y (by simpa using hk);rw [show i+1+k=i+(k+1) by omega] at this;exact this
theorem CX {d:Nat} {s:bp}:∀ {l:List Nat},M5 d s l=true→∀ e∈l,∀ off,lk s e≠.lp d off
 |[],_,e,he,_=>by cases he
 |a :: l,h,e,he,off=>by
  unfold M5 at h;rw [aae] at h;rcases aaK.1 he with rfl|he
  ·intro hv;have h1:=h.1;rw [hv] at h1;simp only [xn] at h1;cases h1
  ·exact CX h.2 e he off
theorem ub {cf:List (List Nat)} (hA:Fx ops eX) (hP:Zm ops.size (oM ops)=true) (hF:IT (oM ops) 0 (oM ops) cf=true) (hK:Inv K):∀ (T:DT) (n:Nat) (C:List Nat) (listed:Array Bool) (L:Nat),NC ops C→sC eX listed→IV ops L listed →
  (pQ (oM ops) (2 ^ ops.size - 1) eX cf T n C L none=true→∀ s,yW E f ops.toList T K s→iY E f ops eX C K n listed s) ∧
  (∀ m l,n=m+1→pQ (oM ops) (2 ^ ops.size - 1) eX cf T n C L (some l)=true→∀ s,yW E f ops.toList T K s→∀ i∈l,i∈aal .any ops listed→∀ oi,ops[i]?=some oi →
   cZ E f ops.toList oi (fun s'=>Km E f ops eX C i s'∧iY E f ops eX C K m (listed.setIfInBounds i true) s') s)
 |.done,n,C,listed,L,hC,mn,hM=>by
  refine ⟨fun h s hs=>?_,fun m l _ h=>by simp [pQ] at h⟩;have hL:L=2 ^ ops.size - 1:=aax (by simpa only [pQ] using h);have hr:aal .any ops listed=[]:=by
   apply List.eq_nil_iff_forall_not_mem.2;intro j hj;obtain ⟨h1,o,ho,_⟩:=mem_ready.1 hj;have cI:j < ops.size:=(aat.1 ho).1;rw [hM.IW cI,hL,Nat.testBit_two_pow_sub_one] at h1;simp [cI] at h1
  cases n with
  |zero=>exact ⟨hr,hs⟩
  |succ n=>exact ⟨fun _=>hs,fun i hi=>by rw [hr] at hi; simp at hi⟩
 |.stop,n,C,listed,L,hC,mn,hM=>by
  refine ⟨fun h=>by cases n <;> simp [pQ] at h,fun m l e h s _ i hi=>?_⟩;subst e;have:l=[]:=by simpa [pQ] using h
  rw [this] at hi;simp at hi
 |.al j W T,0,C,listed,L,hC,mn,hM=>⟨fun h=>by simp [pQ] at h,fun m l e=>by cases e⟩
 |.al j W T,n+1,C,listed,L,hC,mn,hM=>by
  refine ⟨fun h s hs=>?_,fun m l _ h=>by simp [pQ] at h⟩;unfold pQ at h;split at h
  ·rename_i x hx;obtain ⟨oj,hj,rfl⟩:=xX hx;split at h
   ·cases h
   ·rename_i d hd;simp only [sF,aae] at h;obtain ⟨⟨⟨⟨⟨hCe,O9⟩,hbit⟩,hpr⟩,Cl⟩,hT⟩:=h;have hCe:C=[]:=by simpa using hCe
    subst hCe;have O9:cN oj.op=true:=O9;have hd:oj.dst=some d:=hd;have CY:j∈aal .any ops listed:=wI hM hj (by simpa using hbit) hpr (vb hP hj);obtain ⟨ih,_⟩:=ub hA hP hF hK T n [] (listed.setIfInBounds j true) (L ||| 2 ^ j) (fun k hk=>by cases hk) (mn.add hA CY) (hM.add j);unfold yW at hs;rw [bg,aau,hj] at hs;simp only at hs;obtain ⟨gJ,hs⟩:=hs;unfold Zk at gJ;split at gJ
    ·rename_i _ d' hg MK;rw [hd] at MK;cases MK;rw [aae] at gJ;have Zj:E.B7 f d=false:=by simpa using gJ.1
     have Uw:cZ E f ops.toList oj (iY E f ops eX [] K n (listed.setIfInBounds j true)) s:=da hs fun s' h'=>ih hT s' h'
     unfold cZ at Uw;rw [hg] at Uw;obtain ⟨s1,q1,q2⟩:=(M3 O9).1 Uw;refine Ro hA hK hj hg hd O9 Zj n listed s s1 mn (fun i oi hi du Rm wy=>?_) CY q1 q2;have tO:=CW Cl i _ (oN hi);rw [aaP] at tO;simp only [aa0] at tO;have Zn:i < ops.size:=(aat.1 hi).1;rcases tO with ((h1|h1)|h1)|h1
     ·exact absurd (aax h1) du
     ·rw [hM.IW Zn,h1] at Rm; cases Rm
     ·exact absurd (gM.1 h1) wy
     ·rw [aae] at h1;exact ⟨FA h1.1,fun e he off=>CX gJ.2 e (gM.1 (aas.1 h1.2 e he)) off⟩
    ·cases gJ
  ·cases h
 |.take j C' T,0,C,listed,L,hC,mn,hM=>⟨fun h=>by simp [pQ] at h,fun m l e=>by cases e⟩
 |.take j C' T,n+1,C,listed,L,hC,mn,hM=>by
  refine ⟨fun h s hs=>?_,fun m l _ h=>by simp [pQ] at h⟩;unfold pQ at h;split at h
  ·rename_i x c hx hc;obtain ⟨oj,hj,rfl⟩:=xX hx;split at h
   ·cases h
   ·rename_i d hd;simp only [sF,aae] at h;obtain ⟨⟨⟨⟨⟨⟨⟨hN,IP⟩,hCd⟩,hcf⟩,hbit⟩,hpr⟩,xW⟩,Zo,hT⟩:=h;have hN:yV oj.op=true:=hN;have hd:oj.dst=some d:=hd;have CY:j∈aal .any ops listed:=wI hM hj (by simpa using hbit) hpr (vb hP hj);have T0:∀ {d:Nat} {l:List Nat},(!nq d l)=true→d∉l:=fun h hm=>by rw [gM.2 hm] at h; cases h
    have Zp:d∉oj.looksAt ops:=T0 IP;have ahK:∀ k∈C,∀ ok,ops[k]?=some ok→d∉ok.looksAt ops∧ok.dst≠some d:=fun k hk ok gJ=>by
     have:=aas.1 hCd k hk;rw [jU gJ] at this;simp only [aae] at this;refine ⟨T0 this.1,fun e=>?_⟩;have h2:=this.2;simp only [oL,e,xn] at h2;cases h2
    have T9:NC ops (j :: C):=fun k hk ok ho=>by
     rcases aaK.1 hk with rfl|hk
     ·rw [hj] at ho; cases ho; exact hN
     ·exact hC k hk ok ho
    have ahL:=mn.add hA CY;obtain ⟨ih,_⟩:=ub hA hP hF hK T n C' (listed.setIfInBounds j true) (L ||| 2 ^ j) (FB xW) ahL (hM.add j);unfold yW at hs;rw [bg,aau,hj] at hs;simp only at hs;have Uw:cZ E f ops.toList oj (iY E f ops eX (j :: C) K n (listed.setIfInBounds j true)) s:=da hs fun s' h'=>sy n _ _ (Ay (hM.add j) Zo) (ih hT s' h')
    obtain ⟨x,vH,hk⟩:=CO hN (kz T9 hK _ _) Uw;rw [hd] at hk;refine Lw hA hC hK hj hN hd Zp ahK n listed s x mn (fun i oi hi du Rm wy=>?_) CY vH hk;have Cl:=CV hF j _ c (oN hj) (by rw [← bg]; exact hc) hN;have tO:=CU Cl i _ (oN hi);rw [aaP,aaP] at tO;simp only [aa0] at tO;have Zn:i < ops.size:=(aat.1 hi).1;rcases tO with ((h1|h1)|h1)|h1
    ·exact absurd (aax h1) du
    ·obtain ⟨e,q1,q2,q3⟩:=lO.1 (gM.1 h1);exact absurd q3 (wy e (by simpa using q1) q2)
    ·have:=aas.1 hcf i (gM.1 h1);rw [hM.IW Zn,this] at Rm;cases Rm
    ·exact FA h1
  ·cases h
 |.br i re C' T more,0,C,listed,L,hC,mn,hM=>⟨fun h=>by simp [pQ] at h,fun m l e=>by cases e⟩
 |.br i re C' T more,n+1,C,listed,L,hC,mn,hM=>by
  have main:∀ left l,(match left with | none=>sE L 0 (oM ops) | some l=>l)=l→pQ (oM ops) (2 ^ ops.size - 1) eX cf (.br i re C' T more) (n+1) C L left=true→∀ s,yW E f ops.toList (.br i re C' T more) K s→i∈l∧∀ k∈l,k∈aal .any ops listed→∀ ok,ops[k]?=some ok →
    cZ E f ops.toList ok (fun s'=>Km E f ops eX C k s'∧iY E f ops eX C K n (listed.setIfInBounds k true) s') s:=by
   intro left l hl h s hs;unfold pQ at h;split at h
   ·cases h
   ·rename_i y hy;obtain ⟨oi,xV,rfl⟩:=xX hy;have h:(Xt (oM ops) eX C re i (oL ops oi)&&M8 (oM ops) C'&&nq i l&&(BF (oM ops) eX (L ||| 2 ^ i) C C'&&pQ (oM ops) (2 ^ ops.size - 1) eX cf T n C' (L ||| 2 ^ i) none) &&
     pQ (oM ops) (2 ^ ops.size - 1) eX cf more (n+1) C L (some (l.filter fun k=>!aay k i)))=true:=by
     cases left with
     |none=>simp only at hl; subst hl; simp only [CT,sF] at h; exact h
     |some l'=>simp only at hl; subst hl; simp only [sF] at h; exact h
    simp only [aae] at h;obtain ⟨⟨⟨⟨hre,xW⟩,gK⟩,Zo,hT⟩,hmore⟩:=h;unfold yW at hs;refine ⟨gM.1 gK,fun k hk hkr ok gJ=>?_⟩;by_cases e:k=i
    ·subst e;rw [xV] at gJ;cases gJ;obtain ⟨ih,_⟩:=ub hA hP hF hK T n C' (listed.setIfInBounds k true) (L ||| 2 ^ k) (FB xW) (mn.add hA hkr) (hM.add k);have h1:=hs.1;rw [bg,aau,xV] at h1;refine da h1 fun s' h'=>⟨fun c hc oc Xs q1 q2 q3 q4=>?_,sy n _ _ (Ay (hM.add k) Zo) (ih hT s' h'.2)⟩
     rw [xV] at q2;cases q2;have Kl:=aas.1 hre c hc;rw [jU q1] at Kl;have q3':uZ (oL ops oc) (oL ops oi)=true:=q3;simp only [q3',Bool.not_true,Bool.false_or,aa0] at Kl;rcases Kl with Kl|Kl
     ·have hm:c∈re:=gM.1 Kl;have:∀ (re:List Nat),c∈re→Fz E f ops.toList re s'→Lp E f ops.toList oc s':=by
       intro re
       induction re with
       |nil=>intro hm; simp at hm
       |cons a re ihr=>
        intro hm ha;rcases aaK.1 hm with rfl|hm
        ·have:=ha.1;rw [bg,aau,q1] at this;exact this
        ·exact ihr hm ha.2
      exact this re hm h'.1
     ·exact absurd (gM.1 Kl) q4
    ·obtain ⟨_,ih⟩:=ub hA hP hF hK more (n+1) C listed L hC mn hM;refine ih n _ rfl hmore s hs.2 k ?_ hkr ok gJ;rw [List.mem_filter];exact ⟨hk,by rw [rW e]; rfl⟩
  refine ⟨fun h s hs=>?_,fun m l e h s hs k hk hkr ok gJ=>?_⟩
  ·obtain ⟨m1,m2⟩:=main none _ rfl h s hs;have back:∀ k,k∈sE L 0 (oM ops)→k∈aal .any ops listed:=fun k hk=>by
    obtain ⟨j,x,q1,q2,q3,q4⟩:=tZ.1 hk;rw [aaP] at q1;subst q1;rw [← bg] at q2;obtain ⟨o,ho,rfl⟩:=xX q2;exact wI hM ho q3 q4 (vb hP ho)
   have aea:∀ k,k∈aal .any ops listed→k∈sE L 0 (oM ops):=fun k hk=>by
    obtain ⟨h1,o,ho,xW⟩:=mem_ready.1 hk;have cI:k < ops.size:=(aat.1 ho).1;refine tZ.2 ⟨k,oL ops o,by omega,oN ho,by rw [← hM.IW cI]; exact h1,aas.2 fun e he=>?_⟩;obtain ⟨ed,q1,q2,rfl⟩:=lO.1 he;have h2:=xW ed (by simpa using q1) q2;rw [hM.IW (vb hP ho ed (by simpa using q1) q2)] at h2;exact h2
   refine ⟨fun h0=>?_,fun k hk ok gJ=>m2 k (aea k hk) hk ok gJ⟩;have:=back i m1;rw [h0] at this;simp at this
  ·cases e;exact (main (some l) l rfl h s hs).2 k hk hkr ok gJ
theorem CZ {R:aj} {w:World} {β:Nat→Nat} {F:Fence} {Qc:Exit→Act→World→Prop} {C:List Nat} (hQ:∀ a' w',tV E R w β s K a' w'→Qc .normal a' w') :
  ∀ (n:Nat) (listed:Array Bool) (R1:aj) (w1:World) (β1:Nat→Nat) (s1:St) (a1:Act),bk E R1 w1 β1 s1 a1→Step R w β s.boxes R1 w1 β1 s1.boxes→s1.ro=s.ro→cw R1 s1.ro F →
   iY E f ops eX C K n listed s1→wpAnyIn F 0 E.P .any ops Qc n listed a1 w1
 |0,listed,R1,w1,β1,s1,a1,hr,ks,bD,_,ha=>⟨ha.1,hQ _ _ ⟨s1,R1,β1,ha.2,hr,ks,bD⟩⟩
 |n+1,listed,R1,w1,β1,s1,a1,hr,ks,bD,hf,ha=>by
  refine ⟨fun h0=>hQ _ _ ⟨s1,R1,β1,ha.1 h0,hr,ks,bD⟩,fun i hi=>?_⟩;obtain ⟨_,o,ho,_⟩:=mem_ready.1 hi;unfold wpOpIn;simp only [ho];refine xQ hr hf (ha.2 i hi o ho) _ ?_;rintro a' w' ⟨s',R',β',q1,q2,q3,q4⟩;exact CZ hQ n _ R' w' β' s' a' q2 (ks.trans q3) (q4.trans bD) (by rw [q4]; exact hf.mono q3.ext) q1.2
theorem iG {K':St→Prop} (hK:∀ s,K s→K' s):∀ (T:DT) (s:St),yW E f ops.toList T K s→yW E f ops.toList T K' s
 |.done,s,h=>hK s h
 |.stop,_,_=>trivial
 |.take j C T,s,h=>by
  unfold yW at h ⊢;split
  ·rename_i oj hj;rw [hj] at h;exact da h fun s' h'=>iG hK T s' h'
  ·rename_i hj;rw [hj] at h;exact h
 |.al j W T,s,h=>by
  unfold yW at h ⊢;split
  ·rename_i oj hj;rw [hj] at h;exact ⟨h.1,da h.2 fun s' h'=>iG hK T s' h'⟩
  ·rename_i hj;rw [hj] at h;exact h
 |.br i re C T more,s,h=>by
  unfold yW at h ⊢;refine ⟨?_,iG hK more s h.2⟩;have h:=h.1;split
  ·rename_i oj hj;rw [hj] at h;exact da h fun s' h'=>⟨h'.1,iG hK T s' h'.2⟩
  ·rename_i hj;rw [hj] at h;exact h
structure aJ where
 eX:List (List Nat)
 cf:List (List Nat)
 T:DT
def Ly (ops:Array Oper) (p:aJ):Bool:=M6 (ops.toList.map (oL ops)) fun I=>
 G3 ops.size fun n=>G3 (2 ^ n - 1) fun N=>CS (Rp p.eX) 0 I&&Zm n I&&IT I 0 I p.cf&&pQ I N (Rp p.eX) p.cf p.T n [] 0 none
theorem bk.drawn {R:aj} {w:World} {β:Nat→Nat} {a:Act} (h:bk E R w β s a):bk E R { w with drawn:=w.drawn+1 } β s a∧Step R w β s.boxes R { w with drawn:=w.drawn+1 } β s.boxes:=by
 have e:Ext R w R { w with drawn:=w.drawn+1 }:=⟨fun _ _ h=>h,fun _ _ _=>rfl,fun _ ro h=>⟨ro,h,di.refl ro⟩,gF.refl w⟩;refine ⟨⟨⟨h.g.len,fun id go ro h1 h2=>(h.g.obj id go ro h1 h2).mono e (fun _ _=>rfl) (fun _ _ _ h=>h),h.g.inj,h.g.wf,fun g cs hg=>(h.g.fm g cs hg).mono e,Nat.le_succ_of_le h.g.lo⟩,?_,h.t.mono e,h.n,h.d⟩,?_⟩
 ·exact h.b.bh e (fun _ _ _=>rfl) (fun _ _ _ _ h=>h) (fun _ _ _ h=>h)
 ·exact ⟨e,rfl,rfl,rfl,Nat.le_refl _,fun _ _ _=>rfl,fun _ _ h=>h,fun _ _ h _ _=>h⟩
theorem gY.draw {id:Nat} {p:aJ} {Q:Exit→St→Prop} (gJ:Ly ops p=true) (h:yW E f ops.toList p.T (Q .normal) s):gY E (.region id ops true) Q s:=fun R w β a F hr hf=>by
 simp only [Ly,IU,sF,aae] at gJ;obtain ⟨⟨⟨hA,hP⟩,hF⟩,hT⟩:=gJ;refine wpIn_region_any E.mixed ?_;obtain ⟨q1,q2⟩:=hr.drawn;have hK:Inv (fun s=>∃ u,uW u s∧Q .normal u):=fun s t e ⟨u,h1,h2⟩=>⟨u,h1.trans e,h2⟩
 have h':=iG (K':=fun s=>∃ u,uW u s∧Q .normal u) (fun s h=>⟨s,uW.refl s,h⟩) p.T s h;have mn:sC (Rp p.eX) (Array.replicate ops.size false):=fun i hi=>by
  rw [aaT,Array.getElem?_replicate] at hi;split at hi <;> cases hi
 have Zq:=(ub (E:=E) (f:=f) (Lx hA) hP hF hK p.T ops.size [] (Array.replicate ops.size false) 0 (fun k hk=>by simp at hk) mn ⟨by simp,fun i hi=>by simp [hi]⟩).1 hT s h';refine CZ (R:=R) (w:=w) (β:=β) (s:=s) (f:=f) (K:=fun s=>∃ u,uW u s∧Q .normal u) ?_ _ _ R _ β s a q1 q2 rfl hf Zq;rintro a' w' ⟨s',R',β',⟨u,e,hu⟩,h2,h3,h4⟩;exact ⟨u,R',β',hu,h2.eqv e.symm,h3.eqv rfl e.symm.b,e.ro.trans h4⟩
end
end Go.Am
