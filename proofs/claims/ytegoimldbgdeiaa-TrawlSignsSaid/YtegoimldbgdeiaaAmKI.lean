/- The abstract machine: regions whose order the tape draws,along a tree of choices that was checked. -/
import Derived.Test.YtegoimldbgdeiaaAmKH
set_option linter.all false
namespace Go.Am
open Go
section
variable {E:Env} {s t:St} {f:FuncId} {ops:Array Oper} {o oj oi:Oper} {d:Tmp} {x:SV} {K K':St→Prop} {dK:Nat→List Nat} {C:List Nat}
def Jv (E:Env) (f:FuncId) (ops:Array Oper) (dK:Nat→List Nat) (C:List Nat) (i:Nat) (s:St):Prop:=
 ∀ j∈C,∀ oj oi,ops[j]?=some oj→ops[i]?=some oi→kg oj oi=true→j∉dK i→Gk E f ops.toList oj s
def NC (ops:Array Oper) (C:List Nat):Prop:=∀ j∈C,∀ oj,ops[j]?=some oj→uI oj.op=true
theorem qQ {i:Nat} (hC:NC ops C):Inv (Jv E f ops dK C i):=fun _ _ e h j hj oj oi h1 h2 h3 h4=>Ot (hC j hj oj h1) e (h j hj oj oi h1 h2 h3 h4)
def gv (E:Env) (f:FuncId) (ops:Array Oper) (dK:Nat→List Nat) (C:List Nat) (K:St→Prop):Nat→Array Bool→St→Prop
 |0,listed,s=>Region.ready .any ops listed=[]∧K s
 |n+1,listed,s=>(Region.ready .any ops listed=[]→K s) ∧
   ∀ i∈Region.ready .any ops listed,∀ oi,ops[i]?=some oi→cb E f ops.toList oi (fun s'=>Jv E f ops dK C i s'∧gv E f ops dK C K n (listed.setIfInBounds i true) s') s
theorem iX (hC:NC ops C) (hK:Inv K):∀ n listed,Inv (gv E f ops dK C K n listed)
 |0,_=>fun s t e h=>⟨h.1,hK s t e h.2⟩
 |n+1,_=>fun s t e h=>⟨fun h0=>hK s t e (h.1 h0),fun i hi oi tK=>D8 (fun s t e h=>⟨qQ hC s t e h.1,iX hC hK n _ s t e h.2⟩) s t e (h.2 i hi oi tK)⟩
theorem oV {C':List Nat}:∀ n (listed:Array Bool) (s:St),
  (∀ k∈C',k∈C∨∀ i ok oi,ops[k]?=some ok→ops[i]?=some oi→listed.getD i true=false→kg ok oi=true→k∈dK i) →
  gv E f ops dK C K n listed s→gv E f ops dK C' K n listed s
 |0,_,_,_,h=>h
 |n+1,listed,s,hk,h=>⟨h.1,fun i hi oi tK=>cg (h.2 i hi oi tK) fun s' h'=>⟨fun k Sw ok QG h1 h2 h3 h4=>by
   rcases hk k Sw with h5|h5
   ·exact h'.1 k h5 ok QG h1 h2 h3 h4
   ·exact absurd (h5 i ok QG h1 h2 (mem_ready.1 hi).1 h3) h4,oV n _ s' (fun k Sw=>by
   rcases hk k Sw with h5|h5
   ·exact .inl h5
   ·refine .inr fun i' ok QG h1 h2 h3 h4=>h5 i' ok QG h1 h2 ?_ h4
    by_cases e:i=i'
    ·subst e; exact (mem_ready.1 hi).1
    ·rw [getD_set_ne true e] at h3; exact h3) h'.2⟩⟩
def Bw (ops:Array Oper) (dK:Nat→List Nat):Prop:=∀ i oi a,ops[i]?=some oi→a∈dK i→∃ e∈oi.after,Region.binds .any e=true∧(e.on=a∨a∈dK e.on)
def oW (dK:Nat→List Nat) (listed:Array Bool):Prop:=∀ i,listed.getD i false=true→∀ a∈dK i,listed.getD a false=true
theorem oW.ready {listed:Array Bool} (h:oW dK listed) (ha:Bw ops dK) {i:Nat} (hi:i∈Region.ready .any ops listed):∀ a∈dK i,listed.getD a false=true:=fun a ZH=>by
 obtain ⟨_,o,ho,tL⟩:=mem_ready.1 hi;obtain ⟨e,he,hb,h2⟩:=ha i o a ho ZH;rcases h2 with rfl|h2
 ·exact tL e he hb
 ·exact h _ (tL e he hb) a h2
theorem ku {listed:Array Bool} {i:Nat} (h:listed.getD i false=true):listed.getD i true=true:=by
 rw [Array.getD_eq_getD_getElem?] at *;cases hl:listed[i]? with
 |none=>rw [hl] at h; cases h
 |some b=>rw [hl] at h; exact h
theorem oW.add {listed:Array Bool} (h:oW dK listed) (ha:Bw ops dK) {i:Nat} (hi:i∈Region.ready .any ops listed):oW dK (listed.setIfInBounds i true):=fun k hk a ZH=>by
 by_cases e:i=k
 ·subst e;exact getD_set_true (h.ready ha hi a ZH)
 ·rw [getD_set_ne false e] at hk;exact getD_set_true (h k hk a ZH)
theorem Gt (hA:Bw ops dK) (hC:NC ops C) (hK:Inv K) {j:Nat} (hj:ops[j]?=some oj) (hN:uI oj.op=true) (HL:oj.dst=some d) (Ea:d∉oj.looksAt ops)
  (hCd:∀ k∈C,∀ ok,ops[k]?=some ok→d∉ok.looksAt ops∧ok.dst≠some d):∀ n (listed:Array Bool) (s:St) (x:SV),oW dK listed →
   (∀ i oi,ops[i]?=some oi→i≠j→listed.getD i true=false→(∀ e∈oi.after,Region.binds .any e=true→e.on≠j)→oj.apart ops oi=true) →
   j∈Region.ready .any ops listed→yH E f ops oj s x→gv E f ops dK (j :: C) K n (listed.setIfInBounds j true) (s.put (some d) x)→gv E f ops dK C K (n+1) listed s:=by
 have NA:NC ops (j :: C):=fun k hk ok ho=>by
  rcases List.mem_cons.1 hk with rfl|hk
  ·rw [hj] at ho; cases ho; exact hN
  ·exact hC k hk ok ho
 have self:∀ n (listed:Array Bool) (s:St) (x:SV),yH E f ops oj s x→gv E f ops dK (j :: C) K n (listed.setIfInBounds j true) (s.put (some d) x)→∀ oi,ops[j]?=some oi →
   cb E f ops.toList oi (fun s'=>Jv E f ops dK C j s'∧gv E f ops dK C K n (listed.setIfInBounds j true) s') s:=fun n listed s x hx h oi tK=>by
  rw [hj] at tK;cases tK;refine yJ hN (fun s t e h=>⟨qQ hC s t e h.1,iX hC hK _ _ s t e h.2⟩) hx ?_;rw [HL];refine ⟨fun k _ ok QG _ h2 h3 _=>?_,oV n _ _ (fun k hk=>.inl (List.mem_cons_of_mem _ hk)) h⟩;rw [hj] at h2;cases h2;simp [kg,D6 hN,hN] at h3
 intro n
 induction n with
 |zero=>
  intro listed s x _ _ hr hx h;refine ⟨fun h0=>by rw [h0] at hr; simp at hr,fun i hi oi tK=>?_⟩;by_cases e:i=j
  ·subst e; exact self 0 listed s x hx h oi tK
  ·have:=ready_mono hi e;rw [h.1] at this;simp at this
 |succ n ih=>
  intro listed s x jX lH hr hx h;refine ⟨fun h0=>by rw [h0] at hr; simp at hr,fun i hi oi tK=>?_⟩;by_cases e:i=j
  ·subst e; exact self (n+1) listed s x hx h oi tK
  ·have Lx:=(mem_ready.1 hi).1;have Oy:=(mem_ready.1 hr).1;have RT:∀ ed∈oi.after,Region.binds .any ed=true→ed.on≠j:=fun ed he hb jW=>by
    obtain ⟨_,o,ho,tL⟩:=mem_ready.1 hi;rw [tK] at ho;cases ho;have h1:=ku (tL ed he hb);rw [jW,Oy] at h1;cases h1
   have Wc:=lH i oi tK e Lx RT;have hG:=h.2 i (ready_mono hi e) oi tK;have Ly:j∉dK i:=fun hm=>by
    have h1:=ku (jX.ready hA hi j hm);rw [Oy] at h1;cases h1
   have ZI:Inv (fun s'=>Jv E f ops dK (j :: C) i s'∧gv E f ops dK (j :: C) K n ((listed.setIfInBounds j true).setIfInBounds i true) s'):=
    fun s t e h=>⟨qQ NA s t e h.1,iX NA hK _ _ s t e h.2⟩
   have Sx:∀ k ok,ops[k]?=some ok→k≠j→(listed.setIfInBounds i true).getD k true=false→(∀ e∈ok.after,Region.binds .any e=true→e.on≠j)→oj.apart ops ok=true:=fun k ok hk hkj Xz sf=>by
    refine lH k ok hk hkj ?_ sf;by_cases e':i=k
    ·subst e'; exact Lx
    ·rw [getD_set_ne true e'] at Xz; exact Xz
   have core:∀ {pre:ba} {preB:cD} {G:List GO},Wa (bU oi.op) oi.dst pre→(uI oi.op=true→preB=[]∧G=s.G) →
     (Jv E f ops dK (j :: C) i ((s.put (some d) x).fV pre preB G)∧gv E f ops dK (j :: C) K n ((listed.setIfInBounds j true).setIfInBounds i true) ((s.put (some d) x).fV pre preB G)) →
     Jv E f ops dK C i (s.fV pre preB G)∧gv E f ops dK C K (n+1) (listed.setIfInBounds i true) (s.fV pre preB G):=by
    intro pre preB G Eb Xx hk;obtain ⟨x',wG,jy⟩:=Jp hN HL Ea Wc ZI hx Eb Xx hk (fun t' AL hd=>AL.1 j (List.mem_cons_self ..) oj oi hj tK hd Ly);refine ⟨fun k Sw ok QG h1 h2 h3 h4=>?_,?_⟩
    ·obtain ⟨q1,q2⟩:=hCd k Sw ok h1;obtain ⟨b1,b2,b3,_⟩:=gO (s.fV pre preB G) (some d) x';exact Oq (hC k Sw ok h1) q1 q2 (fun e he=>xm _ _ _ he) (by rw [b1]) b2 b3 (jy.1 k (List.mem_cons_of_mem _ Sw) ok QG h1 h2 h3 h4)
    ·refine ih (listed.setIfInBounds i true) _ x' (jX.add hA hi) Sx (ready_mono hr (Ne.symm e)) wG ?_;rw [Array.setIfInBounds_comm _ _ e];exact jy.2
   rw [gN (fun s t e h=>⟨qQ hC s t e h.1,iX hC hK _ _ s t e h.2⟩)];obtain ⟨Nx,_,_⟩:=Oper.apart_spec Wc;have vK:∀ e∈oi.looksAt ops,lk (s.put (some d) x).ae e=lk s.ae e:=fun e he=>xm s d x fun k=>Nx d HL (k ▸ he)
   obtain ⟨b1,b2,b3,b4,b5⟩:=gO s (some d) x;rcases (gN ZI).1 hG with ⟨h1,h2⟩|⟨h1,h2⟩
   ·refine .inl ⟨by rw [← lr vK]; exact h1,vh b3 b2 (by rw [b1]) (lL vK) h2 fun pre preB G hp Xx hk=>core hp (fun hh=>?_) hk⟩;obtain ⟨q1,q2⟩:=Xx hh;exact ⟨q1,by rw [q2,b2]⟩
   ·refine .inr ⟨by rw [← lr vK]; exact h1,?_⟩;obtain ⟨pre,preB,G,p1,p2,p3,p4⟩:=bM.put (s:=s.put (some d) x) (t:=s) (al:=bU oi.op) (w:=false) b3 b2 oi.dst (.v gG);obtain ⟨q1,q2,_⟩:=p2 rfl;rw [p3] at h2;rw [p4];exact core p1 (fun _=>⟨q1,by rw [q2,b2]⟩) h2
theorem HO {i:Nat} {s:St}:Jv E f ops dK [] i s:=fun j hj=>by cases hj
theorem Sy {y:Operand} {k off:Nat} (h:bw E s.ae y=.lp k off):∃ e,y=.tmp e∧lk s.ae e=.lp k off:=by
 cases y with
 |tmp e=>exact ⟨e,rfl,h⟩
 |const v=>simp only [bw] at h; split at h <;> cases h
 |global g=>simp only [bw] at h; split at h <;> cases h
 |func g=>cases h
theorem Lz (hA:Bw ops dK) (hK:Inv K) {j:Nat} (hj:ops[j]?=some oj) (hg:oj.guard=none) (HL:oj.dst=some d) (Jq:bU oj.op=true) (Sz:E.xJ f d=false):∀ n (listed:Array Bool) (s s1:St),oW dK listed →
  (∀ i oi,ops[i]?=some oi→i≠j→listed.getD i true=false→j∉dK i→oj.apart ops oi=true∧∀ e∈oi.looksAt ops,∀ off,lk s.ae e≠.lp d off) →
  j∈Region.ready .any ops listed→ak E f s oj=some (true,s1)→gv E f ops dK [] K n (listed.setIfInBounds j true) s1→gv E f ops dK [] K (n+1) listed s:=by
 have NA:NC ops []:=fun k hk=>by cases hk
 have self:∀ n (listed:Array Bool) (s s1:St),ak E f s oj=some (true,s1)→gv E f ops dK [] K n (listed.setIfInBounds j true) s1→∀ oi,ops[j]?=some oi →
   cb E f ops.toList oi (fun s'=>Jv E f ops dK [] j s'∧gv E f ops dK [] K n (listed.setIfInBounds j true) s') s:=fun n listed s s1 hx h oi tK=>by
  rw [hj] at tK;cases tK;unfold cb;rw [hg];exact (HN Jq).2 ⟨s1,hx,HO,h⟩
 intro n
 induction n with
 |zero=>
  intro listed s s1 _ _ hr hx h;refine ⟨fun h0=>by rw [h0] at hr; simp at hr,fun i hi oi tK=>?_⟩;by_cases e:i=j
  ·subst e; exact self 0 listed s s1 hx h oi tK
  ·have:=ready_mono hi e;rw [h.1] at this;simp at this
 |succ n ih=>
  intro listed s s1 jX lH hr hx h;refine ⟨fun h0=>by rw [h0] at hr; simp at hr,fun i hi oi tK=>?_⟩;by_cases e:i=j
  ·subst e; exact self (n+1) listed s s1 hx h oi tK
  ·have Lx:=(mem_ready.1 hi).1;have Oy:=(mem_ready.1 hr).1;have Ly:j∉dK i:=fun hm=>by
    have h1:=ku (jX.ready hA hi j hm);rw [Oy] at h1;cases h1
   obtain ⟨Wc,sf⟩:=lH i oi tK e Lx Ly;obtain ⟨Nx,cz,wQ⟩:=Oper.apart_spec Wc;have FU:oi.dst≠some d:=cz d HL;obtain ⟨_,cs,rfl,Bl⟩:=Gr Jq HL Sz hx;have hG:=h.2 i (ready_mono hi e) oi tK;have ZI:Inv (fun s'=>Jv E f ops dK [] i s'∧gv E f ops dK [] K n ((listed.setIfInBounds j true).setIfInBounds i true) s'):=
    fun s t e h=>⟨qQ NA s t e h.1,iX NA hK _ _ s t e h.2⟩
   have Ju:∀ y∈oi.op.operands,∀ off,bw E s.ae y≠.lp d off:=fun y hy off hv=>by
    obtain ⟨e',rfl,hv⟩:=Sy hv;exact sf e' (oU hy) off hv
   have core:∀ {pre:ba} {preB:cD} {G:List GO},iW E s oi (s.fV pre preB G) →
     (Jv E f ops dK [] i ((su s d cs).fV pre preB G)∧gv E f ops dK [] K n ((listed.setIfInBounds j true).setIfInBounds i true) ((su s d cs).fV pre preB G)) →
     Jv E f ops dK [] i (s.fV pre preB G)∧gv E f ops dK [] K (n+1) (listed.setIfInBounds i true) (s.fV pre preB G):=by
    intro pre preB G Ox hk;refine ⟨HO,?_⟩;obtain ⟨o1,o2⟩:=HM Ox;have vK:∀ e' off,oi.dst≠some e'∨lk (s.fV pre preB G).ae e'=.lp d off→lk (s.fV pre preB G).ae e'=.lp d off→lk s.ae e'=.lp d off:=by
     intro e' off _ hv;have hv:lk (pre++s.ae) e'=.lp d off:=hv;rcases o1 with rfl|⟨d',x,Hx,hp,Oz⟩
     ·exact hv
     ·have wG:∀ off,x≠.lp d off:=fun off c=>by
       rcases Oz d off c with ⟨y,hy,gk,ho⟩|⟨_,h⟩
       ·exact Ju y hy gk ho
       ·exact FU (by rw [Hx,h])
      by_cases c2:d'=e'
      ·subst c2;rcases hp with rfl|rfl
       ·simp only [List.cons_append,List.nil_append,aA] at hv; exact absurd hv (wG off)
       ·simp only [List.cons_append,List.nil_append,aA] at hv; exact absurd hv (wG off)
      ·rcases hp with rfl|rfl
       ·simp only [List.cons_append,List.nil_append] at hv; rwa [aN c2] at hv
       ·simp only [List.cons_append,List.nil_append] at hv;rw [aN c2,kh] at hv;cases hl:lk s.ae e' with
        |lp k gk=>
         rw [hl] at hv;simp only at hv;cases hb:Nat.beq k d' with
         |true=>rw [hb] at hv; cases hv
         |false=>rw [hb] at hv; exact hv
        |v a=>rw [hl] at hv; cases hv
        |none=>rw [hl] at hv; cases hv
    refine ih (listed.setIfInBounds i true) _ _ (jX.add hA hi) ?_ (ready_mono hr (Ne.symm e)) (Bl (s.fV pre preB G) rfl ?_) ?_
    ·intro k ok jy hkj Xz aaP;have aaQ:listed.getD k true=false:=by
      by_cases e':i=k
      ·subst e'; exact Lx
      ·rw [getD_set_ne true e'] at Xz; exact Xz
     obtain ⟨q1,q2⟩:=lH k ok jy hkj aaQ aaP;exact ⟨q1,fun e' NB off hv=>q2 e' NB off (vK e' off (.inr hv) hv)⟩
    ·intro y hy v hv;cases y with
     |tmp e'=>
      have Hx:oi.dst≠some e':=fun c=>wQ e' c (oU hy)
      have hv:lk s.ae e'=.v v:=hv;show lk (pre++s.ae) e'=.v v;rcases o1 with rfl|⟨d',x,Sl,hp,_⟩
      ·exact hv
      ·have c2:d'≠e':=fun c=>Hx (by rw [Sl,c])
       rcases hp with rfl|rfl
       ·simp only [List.cons_append,List.nil_append]; rw [aN c2]; exact hv
       ·simp only [List.cons_append,List.nil_append];rw [aN c2,yL (fun off=>by rw [hv]; intro c; cases c)]; exact hv
     |const _=>exact hv
     |global _=>exact hv
     |func _=>exact hv
    ·rw [Array.setIfInBounds_comm _ _ e];exact iX NA hK _ _ _ _ (Jt cs Ox FU Ju) hk.2
   have CA:∀ e'∈oi.looksAt ops,lk (su s d cs).ae e'=lk s.ae e':=fun e' NB=>by
    have c1:d≠e':=fun c=>Nx d HL (c ▸ NB)
    show lk (.put d (.lp d 0) :: .kill d :: s.ae) e'=_;rw [aN c1,yL (sf e' NB)]
   have FM:∀ k off,(∃ y∈oi.op.operands,bw E (su s d cs).ae y=.lp k off)→di (su s d cs).boxes k=di s.boxes k:=by
    rintro k off ⟨y,hy,hv⟩;rw [lL CA y hy] at hv;have Nr:d≠k:=fun c=>Ju y hy off (by rw [c]; exact hv)
    show di ((d,cs) :: s.boxes) k=di s.boxes k;simp only [di];cases hb:Nat.beq d k with
    |true=>exact absurd (Nat.eq_of_beq_eq_true hb) Nr
    |false=>rfl
   rw [gN (fun s t e h=>⟨qQ NA s t e h.1,iX NA hK _ _ s t e h.2⟩)];rcases (gN ZI).1 hG with ⟨h1,h2⟩|⟨h1,h2⟩
   ·exact .inl ⟨by rw [← lr CA]; exact h1,Gs (s:=su s d cs) (t:=s) rfl rfl FM (lL CA) h2 fun pre preB G hO hk=>core hO hk⟩
   ·refine .inr ⟨by rw [← lr CA]; exact h1,?_⟩;obtain ⟨pre,preB,G,p1,p2,p3,p4⟩:=bM.put (s:=su s d cs) (t:=s) (al:=bU oi.op) (w:=false) rfl rfl oi.dst (.v gG);rw [p3] at h2;have hO:iW E s oi (s.put oi.dst (.v gG)):=kD rfl rfl _;rw [p4] at hO ⊢;exact core hO h2
end
inductive DT where
 |done
 |take (j:Nat) (C:List Nat) (t:DT)
 |br (i:Nat) (re C:List Nat) (t:DT) (more:DT)
 |stop
 |al (j:Nat) (W:List Nat) (t:DT)
structure oX where
 dst:Option Tmp
 lo:List Tmp
 pr:List Nat
 n:Bool
 r:Bool
 a:Bool
def HP (d:Nat) (s:ba):List Nat→Bool
 |[]=>true
 |e :: l=>(match lk s e with
  |.lp k _=>!Nat.beq k d
  |_=>true)&&HP d s l
def SA (E:Env) (f:FuncId) (o:Oper) (W:List Nat) (s:St):Bool:=match o.guard,o.dst with
 |none,some d=>!E.xJ f d&&HP d s.ae W
 |_,_=>false
def kv (x:Nat):List Nat→Bool
 |[]=>false
 |y :: l=>Nat.beq x y || kv x l
def qR:List Edge→List Nat
 |[]=>[]
 |e :: l=>bif Region.binds .any e then e.on :: qR l else qR l
def lM (ops:Array Oper) (o:Oper):oX:=⟨o.dst,o.looksAt ops,qR o.after.toList,uI o.op,Sv o.op,bU o.op⟩
def CB {α:Type} (n:Nat) (K:Nat→α):α:=match n with
 |0=>K 0
 |m+1=>K (Nat.succ m)
def Bx {α:Type}:List Nat→(List Nat→α)→α
 |[],K=>K []
 |a :: l,K=>CB a fun a=>Bx l fun l=>K (a :: l)
def SB {α:Type} (i:oX) (K:oX→α):α:=match i with
 |⟨d,lo,pr,n,r,a⟩=>Bx lo fun lo=>Bx pr fun pr=>(match d with
  |none=>(fun (K:Option Tmp→α)=>K none)
  |some d=>(fun (K:Option Tmp→α)=>CB d fun d=>K (some d))) fun d=>(bif n then (fun (K:Bool→α)=>K true) else fun K=>K false) fun n=>
   (bif r then (fun (K:Bool→α)=>K true) else fun K=>K false) fun r=>(bif a then (fun (K:Bool→α)=>K true) else fun K=>K false) fun a=>K ⟨d,lo,pr,n,r,a⟩
def HQ {α:Type}:List oX→(List oX→α)→α
 |[],K=>K []
 |i :: l,K=>SB i fun i=>HQ l fun l=>K (i :: l)
def vj (x y:oX):Bool:=
 (match x.dst with
 |some d=>!kv d y.lo&&(match y.dst with | some e=>!Nat.beq e d | none=>true)
 |none=>true) &&
 (match y.dst with
 |some d=>!kv d x.lo
 |none=>true)
def Ed (j:Nat) (x:oX) (cf:List Nat):Nat→List oX→Bool
 |_,[]=>true
 |i,y :: l=>(Nat.beq i j || kv j y.pr || kv i cf || vj x y)&&Ed j x cf (i+1) l
def Ee (I:List oX):Nat→List oX→List (List Nat)→Bool
 |_,[],_=>true
 |j,x :: l,c :: cs=>(!x.n || Ed j x c 0 I)&&Ee I (j+1) l cs
 |_,_,_=>false
def yM (dK:Nat→List Nat):Nat→List oX→Bool
 |_,[]=>true
 |i,x :: l=>(dK i).all (fun a=>x.pr.any fun e=>Nat.beq e a || kv a (dK e))&&yM dK (i+1) l
def oY (L:Nat):Nat→List oX→List Nat
 |_,[]=>[]
 |i,x :: l=>bif !L.testBit i&&x.pr.all (fun e=>L.testBit e) then i :: oY L (i+1) l else oY L (i+1) l
def qS (x y:oX):Bool:=y.a || (x.r&&!y.n)
def qT (dK:Nat→List Nat) (L k:Nat) (x:oX):Nat→List oX→Bool
 |_,[]=>true
 |i,y :: l=>(L.testBit i || !qS x y || kv k (dK i))&&qT dK L k x (i+1) l
def xn (I:List oX) (dK:Nat→List Nat) (L:Nat) (C C':List Nat):Bool:=C.all fun k=>kv k C' || match nth I k with
 |none=>false
 |some x=>qT dK L k x 0 I
def QH (I:List oX) (dK:Nat→List Nat) (C re:List Nat) (i:Nat) (y:oX):Bool:=C.all fun k=>kv k re || match nth I k with
 |none=>false
 |some x=>!qS x y || kv k (dK i)
def HR (dK:Nat→List Nat) (L:Nat) (W:List Nat) (j:Nat) (x:oX):Nat→List oX→Bool
 |_,[]=>true
 |i,y :: l=>(Nat.beq i j || L.testBit i || kv j (dK i) || (vj x y&&y.lo.all fun e=>kv e W))&&HR dK L W j x (i+1) l
def HS (I:List oX) (C:List Nat):Bool:=C.all fun k=>match nth I k with
 |some x=>x.n
 |none=>false
def mE (I:List oX) (N:Nat) (dK:Nat→List Nat) (cf:List (List Nat)):DT→Nat→List Nat→Nat→Option (List Nat)→Bool
 |.done,_,_,L,none=>Nat.beq L N
 |.take j C' t,n+1,C,L,none=>match nth I j,nth cf j with
  |some x,some c=>match x.dst with
   |none=>false
   |some d=>x.n&&!kv d x.lo&&(C.all fun k=>match nth I k with
     |none=>false
     |some y=>!kv d y.lo&&(match y.dst with | some e=>!Nat.beq e d | none=>true)) &&
    c.all (fun i=>L.testBit i)&&!L.testBit j&&x.pr.all (fun e=>L.testBit e)&&HS I C' &&
    CB (L ||| 2 ^ j) fun L'=>xn I dK L' (j :: C) C'&&mE I N dK cf t n C' L' none
  |_,_=>false
 |.br i re C' t more,n+1,C,L,left=>match nth I i with
  |none=>false
  |some y=>(match left with
   |none=>fun (K:List Nat→Bool)=>Bx (oY L 0 I) K
   |some l=>fun K=>K l) fun l=>
    QH I dK C re i y&&HS I C'&&kv i l&&(CB (L ||| 2 ^ i) fun L'=>xn I dK L' C C'&&mE I N dK cf t n C' L' none) &&
     mE I N dK cf more (n+1) C L (some (l.filter fun k=>!Nat.beq k i))
 |.stop,_,_,_,some l=>l.isEmpty
 |.al j W t,n+1,C,L,none=>match nth I j with
  |some x=>match x.dst with
   |none=>false
   |some _=>C.isEmpty&&x.a&&!L.testBit j&&x.pr.all (fun e=>L.testBit e)&&HR dK L W j x 0 I&&CB (L ||| 2 ^ j) fun L'=>mE I N dK cf t n [] L' none
  |none=>false
 |_,_,_,_,_=>false
def By (E:Env) (f:FuncId) (ops:List Oper):List Nat→St→Prop
 |[],_=>True
 |k :: l,s=>(match nth ops k with
  |some ok=>Gk E f ops ok s
  |none=>True)∧By E f ops l s
def uJ (E:Env) (f:FuncId) (ops:List Oper):DT→(St→Prop)→St→Prop
 |.done,K,s=>K s
 |.take j _ t,K,s=>match nth ops j with
  |some oj=>cb E f ops oj (uJ E f ops t K) s
  |none=>False
 |.br i re _ t more,K,s=>(match nth ops i with
  |some oi=>cb E f ops oi (fun s'=>By E f ops re s'∧uJ E f ops t K s') s
  |none=>False)∧uJ E f ops more K s
 |.stop,_,_=>True
 |.al j W t,K,s=>match nth ops j with
  |some oj=>SA E f oj W s=true∧cb E f ops oj (uJ E f ops t K) s
  |none=>False
def LA (l:List (List Nat)) (i:Nat):List Nat:=match nth l i with
 |some a=>a
 |none=>[]
section
variable {E:Env} {s t:St} {f:FuncId} {ops:Array Oper} {K:St→Prop} {dK:Nat→List Nat}
theorem fq {x:Nat}:∀ {l:List Nat},kv x l=true↔x∈l
 |[]=>by simp [kv]
 |y :: l=>by simp [kv,fq (l:=l)]
theorem oZ {α:Type} (n:Nat) (K:Nat→α):CB n K=K n:=by cases n <;> rfl
theorem yN {α:Type}:∀ (l:List Nat) (K:List Nat→α),Bx l K=K l
 |[],_=>rfl
 |a :: l,K=>by simp only [Bx,oZ]; rw [yN]
theorem OA {α:Type} (i:oX) (K:oX→α):SB i K=K i:=by
 obtain ⟨d,lo,pr,n,r,a⟩:=i;cases d <;> cases n <;> cases r <;> cases a <;> simp [SB,yN,oZ]
theorem Ef {α:Type}:∀ (l:List oX) (K:List oX→α),HQ l K=K l
 |[],_=>rfl
 |a :: l,K=>by simp only [HQ,OA]; rw [Ef]
def lN (ops:Array Oper):List oX:=ops.toList.map (lM ops)
theorem tM {k:Nat} {x:oX} (h:nth (lN ops) k=some x):∃ o,ops[k]?=some o∧x=lM ops o:=by
 rw [aV,lN,List.getElem?_map,Array.getElem?_toList] at h;cases ho:ops[k]? with
 |none=>rw [ho] at h; cases h
 |some o=>rw [ho] at h; exact ⟨o,rfl,by simpa using h.symm⟩
theorem jN {e:Nat}:∀ {l:List Edge},e∈qR l↔∃ ed∈l,Region.binds .any ed=true∧ed.on=e
 |[]=>by simp [qR]
 |x :: l=>by
  unfold qR;cases hb:Region.binds .any x with
  |true=>
   simp only [cond_true,List.mem_cons,jN (l:=l),exists_eq_or_imp,hb,true_and];constructor
   ·rintro (h|h)
    ·exact .inl h.symm
    ·exact .inr h
   ·rintro (h|h)
    ·exact .inl h.symm
    ·exact .inr h
  |false=>simp only [cond_false,List.mem_cons,jN (l:=l),exists_eq_or_imp,hb,false_and,false_or,Bool.false_eq_true]
theorem Bz {x y:Oper} (h:vj (lM ops x) (lM ops y)=true):x.apart ops y=true:=by
 have hm:∀ (d:Nat) (l:List Nat),kv d l=false→l.contains d=false:=fun d l h=>by
  cases hc:l.contains d with
  |false=>rfl
  |true=>rw [fq.2 (by simpa using hc)] at h; cases h
 unfold vj at h;unfold Oper.apart;simp only [lM,Bool.and_eq_true] at h ⊢;refine ⟨?_,?_⟩
 ·cases hx:x.dst with
  |none=>rfl
  |some d=>
   rw [hx] at h;simp only [Bool.and_eq_true,Bool.not_eq_true'] at h ⊢;refine ⟨hm _ _ h.1.1,?_⟩;have h2:=h.1.2;cases hy:y.dst with
   |none=>rfl
   |some e=>
    rw [hy] at h2;simp only [Bool.not_eq_true'] at h2;have:e≠d:=fun k=>by rw [k,sY] at h2; cases h2
    simpa using this
 ·cases hy:y.dst with
  |none=>rfl
  |some d=>
   rw [hy] at h;simp only [Bool.not_eq_true'] at h ⊢;exact hm _ _ h.2
def Eg (ops:Array Oper) (L:Nat) (listed:Array Bool):Prop:=listed.size=ops.size∧∀ i,i < ops.size→listed[i]?=some (L.testBit i)
theorem Eg.add {L:Nat} {listed:Array Bool} (h:Eg ops L listed) (j:Nat):Eg ops (L ||| 2 ^ j) (listed.setIfInBounds j true):=by
 refine ⟨by simp [h.1],fun i hi=>?_⟩;rw [Nat.testBit_or,Nat.testBit_two_pow];by_cases e:j=i
 ·subst e;rw [Array.getElem?_setIfInBounds_self_of_lt (by rw [h.1]; exact hi)];simp
 ·rw [Array.getElem?_setIfInBounds_ne e,h.2 i hi];simp [e]
theorem Eg.Eh {L:Nat} {listed:Array Bool} (h:Eg ops L listed) {i:Nat} (hi:i < ops.size) (b:Bool):listed.getD i b=L.testBit i:=by
 rw [Array.getD_eq_getD_getElem?,h.2 i hi]; rfl
theorem sw {L:Nat} {listed:Array Bool} (h:Eg ops L listed) {j:Nat} {o:Oper} (ho:ops[j]?=some o) (h1:L.testBit j=false) (h2:((lM ops o).pr.all fun e=>L.testBit e)=true)
  (bO:∀ e∈o.after,Region.binds .any e=true→e.on < ops.size):j∈Region.ready .any ops listed:=by
 have hj:j < ops.size:=(Array.getElem?_eq_some_iff.1 ho).1;refine mem_ready.2 ⟨by rw [h.Eh hj]; exact h1,o,ho,fun e he hb=>?_⟩;rw [h.Eh (bO e he hb)];exact List.all_eq_true.1 h2 e.on (jN.2 ⟨e,by simpa using he,hb,rfl⟩)
def SC (n:Nat) (I:List oX):Bool:=I.all fun x=>x.pr.all fun e=>Nat.blt e n
theorem iE {k:Nat} {o:Oper} (h:ops[k]?=some o):nth (lN ops) k=some (lM ops o):=by
 rw [aV,lN,List.getElem?_map,Array.getElem?_toList,h]; rfl
theorem lO {k:Nat} {o:Oper} (h:ops[k]?=some o):(lN ops)[k]?=some (lM ops o):=by
 rw [← aV]; exact iE h
theorem qU (h:SC ops.size (lN ops)=true) {k:Nat} {o:Oper} (ho:ops[k]?=some o):∀ e∈o.after,Region.binds .any e=true→e.on < ops.size:=fun e he hb=>by
 have h1:=List.all_eq_true.1 h (lM ops o) (List.mem_of_getElem? (lO ho));have h2:=List.all_eq_true.1 h1 e.on (jN.2 ⟨e,by simpa using he,hb,rfl⟩);exact Nat.le_of_ble_eq_true h2
theorem yO {j:Nat} {x:oX} {c:List Nat}:∀ {l:List oX} {i:Nat},Ed j x c i l=true→∀ k y,l[k]?=some y→(Nat.beq (i+k) j || kv j y.pr || kv (i+k) c || vj x y)=true
 |[],_,_,k,y,hk=>by simp at hk
 |z :: l,i,h,k,y,hk=>by
  unfold Ed at h;rw [Bool.and_eq_true] at h;cases k with
  |zero=>simp at hk; subst hk; exact h.1
  |succ k=>
   have:=yO h.2 k y (by simpa using hk);rw [show i+1+k=i+(k+1) by omega] at this;exact this
theorem yP {I:List oX}:∀ {l:List oX} {j:Nat} {cs:List (List Nat)},Ee I j l cs=true→∀ k x c,l[k]?=some x→cs[k]?=some c→x.n=true→Ed (j+k) x c 0 I=true
 |[],_,_,_,k,x,c,hk,_,_=>by simp at hk
 |z :: l,j,[],_,k,x,c,_,hc,_=>by simp at hc
 |z :: l,j,d :: cs,h,k,x,c,hk,hc,hn=>by
  unfold Ee at h;rw [Bool.and_eq_true] at h;cases k with
  |zero=>
   simp at hk hc;subst hk hc;have:=h.1;rw [hn] at this;simpa using this
  |succ k=>
   have:=yP h.2 k x c (by simpa using hk) (by simpa using hc) hn;rw [show j+1+k=j+(k+1) by omega] at this;exact this
theorem vV:∀ {l:List oX} {i:Nat},yM dK i l=true→∀ k x,l[k]?=some x→∀ a∈dK (i+k),∃ e∈x.pr,e=a∨a∈dK e
 |[],_,_,k,x,hk=>by simp at hk
 |z :: l,i,h,k,x,hk=>by
  unfold yM at h;rw [Bool.and_eq_true] at h;cases k with
  |zero=>
   simp at hk;subst hk;intro a ha;have h1:=List.all_eq_true.1 h.1 a ha;obtain ⟨e,he,h2⟩:=List.any_eq_true.1 h1;rw [Bool.or_eq_true] at h2;refine ⟨e,he,?_⟩;rcases h2 with h2|h2
   ·exact .inl (Nat.eq_of_beq_eq_true h2)
   ·exact .inr (fq.1 h2)
  |succ k=>
   have:=vV h.2 k x (by simpa using hk);rw [show i+1+k=i+(k+1) by omega] at this;exact this
theorem Gu (h:yM dK 0 (lN ops)=true):Bw ops dK:=fun i oi a hi ha=>by
 have h1:=vV h i _ (lO hi) a (by rw [Nat.zero_add]; exact ha);obtain ⟨e,he,h2⟩:=h1;obtain ⟨ed,q1,q2,rfl⟩:=jN.1 he;exact ⟨ed,by simpa using q1,q2,h2⟩
theorem qi {L:Nat}:∀ {l:List oX} {i k:Nat},k∈oY L i l↔∃ j x,k=i+j∧l[j]?=some x∧L.testBit k=false∧(x.pr.all fun e=>L.testBit e)=true
 |[],i,k=>by simp [oY]
 |z :: l,i,k=>by
  have ih:=qi (L:=L) (l:=l) (i:=i+1) (k:=k);have rest:(∃ j x,k=i+1+j∧l[j]?=some x∧L.testBit k=false∧(x.pr.all fun e=>L.testBit e)=true)↔∃ j x,k=i+(j+1)∧(z :: l)[j+1]?=some x∧L.testBit k=false∧(x.pr.all fun e=>L.testBit e)=true:=by
   constructor
   ·rintro ⟨j,x,h1,h2⟩; exact ⟨j,x,by omega,by simpa using h2⟩
   ·rintro ⟨j,x,h1,h2⟩; exact ⟨j,x,by omega,by simpa using h2⟩
  unfold oY;cases hc:(!L.testBit i&&z.pr.all fun e=>L.testBit e) with
  |true=>
   simp only [cond_true,List.mem_cons,ih,rest];rw [Bool.and_eq_true,Bool.not_eq_true'] at hc;constructor
   ·rintro (rfl|⟨j,x,h⟩)
    ·exact ⟨0,z,rfl,rfl,hc⟩
    ·exact ⟨j+1,x,h⟩
   ·rintro ⟨j,x,h1,h2⟩;cases j with
    |zero=>exact .inl h1
    |succ j=>exact .inr ⟨j,x,h1,h2⟩
  |false=>
   simp only [cond_false,ih,rest];constructor
   ·rintro ⟨j,x,h⟩; exact ⟨j+1,x,h⟩
   ·rintro ⟨j,x,h1,h2,h3,h4⟩;cases j with
    |zero=>
     simp at h2 h1;subst h1 h2;rw [h3,h4] at hc;cases hc
    |succ j=>exact ⟨j,x,h1,h2,h3,h4⟩
theorem qj {L k:Nat} {x:oX}:∀ {l:List oX} {i:Nat},qT dK L k x i l=true→∀ j y,l[j]?=some y→L.testBit (i+j)=false→qS x y=true→k∈dK (i+j)
 |[],_,_,j,y,hj=>by simp at hj
 |z :: l,i,h,j,y,hj=>by
  unfold qT at h;rw [Bool.and_eq_true] at h;cases j with
  |zero=>
   simp at hj;subst hj;intro h1 h2;have h3:=h.1;rw [Nat.add_zero] at h1;rw [h1,h2] at h3;exact fq.1 (by simpa using h3)
  |succ j=>
   have:=qj h.2 j y (by simpa using hj);rw [show i+1+j=i+(j+1) by omega] at this;exact this
theorem vW {L:Nat} {listed:Array Bool} (hM:Eg ops L listed) {C C':List Nat} (h:xn (lN ops) dK L C C'=true):∀ k∈C,k∈C'∨∀ i ok oi,ops[k]?=some ok→ops[i]?=some oi→listed.getD i true=false→kg ok oi=true→k∈dK i:=fun k hk=>by
 have h1:=List.all_eq_true.1 h k hk;rw [Bool.or_eq_true] at h1;rcases h1 with h1|h1
 ·exact .inl (fq.1 h1)
 ·refine .inr fun i ok oi q1 q2 q3 q4=>?_
  rw [iE q1] at h1;have hi:i < ops.size:=(Array.getElem?_eq_some_iff.1 q2).1;have:=qj h1 i _ (lO q2) (by rw [Nat.zero_add,← hM.Eh hi]; exact q3) q4;rw [Nat.zero_add] at this;exact this
theorem BA {C:List Nat} (h:HS (lN ops) C=true):NC ops C:=fun k hk ok fa=>by
 have:=List.all_eq_true.1 h k hk;rw [iE fa] at this;exact this
theorem yQ {L j:Nat} {x:oX} {W:List Nat}:∀ {l:List oX} {i:Nat},HR dK L W j x i l=true→∀ k y,l[k]?=some y→(Nat.beq (i+k) j || L.testBit (i+k) || kv j (dK (i+k)) || (vj x y&&y.lo.all fun e=>kv e W))=true
 |[],_,_,k,y,hk=>by simp at hk
 |z :: l,i,h,k,y,hk=>by
  unfold HR at h;rw [Bool.and_eq_true] at h;cases k with
  |zero=>simp at hk; subst hk; exact h.1
  |succ k=>
   have:=yQ h.2 k y (by simpa using hk);rw [show i+1+k=i+(k+1) by omega] at this;exact this
theorem yR {d:Nat} {s:ba}:∀ {l:List Nat},HP d s l=true→∀ e∈l,∀ off,lk s e≠.lp d off
 |[],_,e,he,_=>by cases he
 |a :: l,h,e,he,off=>by
  unfold HP at h;rw [Bool.and_eq_true] at h;rcases List.mem_cons.1 he with rfl|he
  ·intro hv;have h1:=h.1;rw [hv] at h1;simp only [sY] at h1;cases h1
  ·exact yR h.2 e he off
theorem qk {cf:List (List Nat)} (hA:Bw ops dK) (hP:SC ops.size (lN ops)=true) (hF:Ee (lN ops) 0 (lN ops) cf=true) (hK:Inv K):∀ (T:DT) (n:Nat) (C:List Nat) (listed:Array Bool) (L:Nat),NC ops C→oW dK listed→Eg ops L listed →
  (mE (lN ops) (2 ^ ops.size - 1) dK cf T n C L none=true→∀ s,uJ E f ops.toList T K s→gv E f ops dK C K n listed s) ∧
  (∀ m l,n=m+1→mE (lN ops) (2 ^ ops.size - 1) dK cf T n C L (some l)=true→∀ s,uJ E f ops.toList T K s→∀ i∈l,i∈Region.ready .any ops listed→∀ oi,ops[i]?=some oi →
   cb E f ops.toList oi (fun s'=>Jv E f ops dK C i s'∧gv E f ops dK C K m (listed.setIfInBounds i true) s') s)
 |.done,n,C,listed,L,hC,jX,hM=>by
  refine ⟨fun h s hs=>?_,fun m l _ h=>by simp [mE] at h⟩;have hL:L=2 ^ ops.size - 1:=Nat.eq_of_beq_eq_true (by simpa only [mE] using h);have hr:Region.ready .any ops listed=[]:=by
   apply List.eq_nil_iff_forall_not_mem.2;intro j hj;obtain ⟨h1,o,ho,_⟩:=mem_ready.1 hj;have bO:j < ops.size:=(Array.getElem?_eq_some_iff.1 ho).1;rw [hM.Eh bO,hL,Nat.testBit_two_pow_sub_one] at h1;simp [bO] at h1
  cases n with
  |zero=>exact ⟨hr,hs⟩
  |succ n=>exact ⟨fun _=>hs,fun i hi=>by rw [hr] at hi; simp at hi⟩
 |.stop,n,C,listed,L,hC,jX,hM=>by
  refine ⟨fun h=>by cases n <;> simp [mE] at h,fun m l e h s _ i hi=>?_⟩;subst e;have:l=[]:=by simpa [mE] using h
  rw [this] at hi;simp at hi
 |.al j W T,0,C,listed,L,hC,jX,hM=>⟨fun h=>by simp [mE] at h,fun m l e=>by cases e⟩
 |.al j W T,n+1,C,listed,L,hC,jX,hM=>by
  refine ⟨fun h s hs=>?_,fun m l _ h=>by simp [mE] at h⟩;unfold mE at h;split at h
  ·rename_i x hx;obtain ⟨oj,hj,rfl⟩:=tM hx;split at h
   ·cases h
   ·rename_i d hd;simp only [oZ,Bool.and_eq_true] at h;obtain ⟨⟨⟨⟨⟨hCe,Jq⟩,hbit⟩,XA⟩,xY⟩,hT⟩:=h;have hCe:C=[]:=by simpa using hCe
    subst hCe;have Jq:bU oj.op=true:=Jq;have hd:oj.dst=some d:=hd;have yS:j∈Region.ready .any ops listed:=sw hM hj (by simpa using hbit) XA (qU hP hj);obtain ⟨ih,_⟩:=qk hA hP hF hK T n [] (listed.setIfInBounds j true) (L ||| 2 ^ j) (fun k hk=>by cases hk) (jX.add hA yS) (hM.add j);unfold uJ at hs;rw [aV,Array.getElem?_toList,hj] at hs;simp only at hs;obtain ⟨fa,hs⟩:=hs;unfold SA at fa;split at fa
    ·rename_i _ d' hg Hx;rw [hd] at Hx;cases Hx;rw [Bool.and_eq_true] at fa;have Sz:E.xJ f d=false:=by simpa using fa.1
     have N4:cb E f ops.toList oj (gv E f ops dK [] K n (listed.setIfInBounds j true)) s:=cg hs fun s' h'=>ih hT s' h'
     unfold cb at N4;rw [hg] at N4;obtain ⟨s1,q1,q2⟩:=(HN Jq).1 N4;refine Lz hA hK hj hg hd Jq Sz n listed s s1 jX (fun i oi hi cz Lx sf=>?_) yS q1 q2;have ke:=yQ xY i _ (lO hi);rw [Nat.zero_add] at ke;simp only [Bool.or_eq_true] at ke;have SD:i < ops.size:=(Array.getElem?_eq_some_iff.1 hi).1;rcases ke with ((h1|h1)|h1)|h1
     ·exact absurd (Nat.eq_of_beq_eq_true h1) cz
     ·rw [hM.Eh SD,h1] at Lx; cases Lx
     ·exact absurd (fq.1 h1) sf
     ·rw [Bool.and_eq_true] at h1;exact ⟨Bz h1.1,fun e he off=>yR fa.2 e (fq.1 (List.all_eq_true.1 h1.2 e he)) off⟩
    ·cases fa
  ·cases h
 |.take j C' T,0,C,listed,L,hC,jX,hM=>⟨fun h=>by simp [mE] at h,fun m l e=>by cases e⟩
 |.take j C' T,n+1,C,listed,L,hC,jX,hM=>by
  refine ⟨fun h s hs=>?_,fun m l _ h=>by simp [mE] at h⟩;unfold mE at h;split at h
  ·rename_i x c hx hc;obtain ⟨oj,hj,rfl⟩:=tM hx;split at h
   ·cases h
   ·rename_i d hd;simp only [oZ,Bool.and_eq_true] at h;obtain ⟨⟨⟨⟨⟨⟨⟨hN,Ea⟩,hCd⟩,hcf⟩,hbit⟩,XA⟩,tL⟩,SE,hT⟩:=h;have hN:uI oj.op=true:=hN;have hd:oj.dst=some d:=hd;have yS:j∈Region.ready .any ops listed:=sw hM hj (by simpa using hbit) XA (qU hP hj);have Nw:∀ {d:Nat} {l:List Nat},(!kv d l)=true→d∉l:=fun h hm=>by rw [fq.2 hm] at h; cases h
    have SF:d∉oj.looksAt ops:=Nw Ea;have aaS:∀ k∈C,∀ ok,ops[k]?=some ok→d∉ok.looksAt ops∧ok.dst≠some d:=fun k hk ok fa=>by
     have:=List.all_eq_true.1 hCd k hk;rw [iE fa] at this;simp only [Bool.and_eq_true] at this;refine ⟨Nw this.1,fun e=>?_⟩;have h2:=this.2;simp only [lM,e,sY] at h2;cases h2
    have NA:NC ops (j :: C):=fun k hk ok ho=>by
     rcases List.mem_cons.1 hk with rfl|hk
     ·rw [hj] at ho; cases ho; exact hN
     ·exact hC k hk ok ho
    have aaT:=jX.add hA yS;obtain ⟨ih,_⟩:=qk hA hP hF hK T n C' (listed.setIfInBounds j true) (L ||| 2 ^ j) (BA tL) aaT (hM.add j);unfold uJ at hs;rw [aV,Array.getElem?_toList,hj] at hs;simp only at hs;have N4:cb E f ops.toList oj (gv E f ops dK (j :: C) K n (listed.setIfInBounds j true)) s:=cg hs fun s' h'=>oV n _ _ (vW (hM.add j) SE) (ih hT s' h')
    obtain ⟨x,wG,hk⟩:=yI hN (iX NA hK _ _) N4;rw [hd] at hk;refine Gt hA hC hK hj hN hd SF aaS n listed s x jX (fun i oi hi cz Lx sf=>?_) yS wG hk;have xY:=yP hF j _ c (lO hj) (by rw [← aV]; exact hc) hN;have ke:=yO xY i _ (lO hi);rw [Nat.zero_add,Nat.zero_add] at ke;simp only [Bool.or_eq_true] at ke;have SD:i < ops.size:=(Array.getElem?_eq_some_iff.1 hi).1;rcases ke with ((h1|h1)|h1)|h1
    ·exact absurd (Nat.eq_of_beq_eq_true h1) cz
    ·obtain ⟨e,q1,q2,q3⟩:=jN.1 (fq.1 h1);exact absurd q3 (sf e (by simpa using q1) q2)
    ·have:=List.all_eq_true.1 hcf i (fq.1 h1);rw [hM.Eh SD,this] at Lx;cases Lx
    ·exact Bz h1
  ·cases h
 |.br i re C' T more,0,C,listed,L,hC,jX,hM=>⟨fun h=>by simp [mE] at h,fun m l e=>by cases e⟩
 |.br i re C' T more,n+1,C,listed,L,hC,jX,hM=>by
  have main:∀ left l,(match left with | none=>oY L 0 (lN ops) | some l=>l)=l→mE (lN ops) (2 ^ ops.size - 1) dK cf (.br i re C' T more) (n+1) C L left=true→∀ s,uJ E f ops.toList (.br i re C' T more) K s→i∈l∧∀ k∈l,k∈Region.ready .any ops listed→∀ ok,ops[k]?=some ok →
    cb E f ops.toList ok (fun s'=>Jv E f ops dK C k s'∧gv E f ops dK C K n (listed.setIfInBounds k true) s') s:=by
   intro left l hl h s hs;unfold mE at h;split at h
   ·cases h
   ·rename_i y hy;obtain ⟨oi,tK,rfl⟩:=tM hy;have h:(QH (lN ops) dK C re i (lM ops oi)&&HS (lN ops) C'&&kv i l&&(xn (lN ops) dK (L ||| 2 ^ i) C C'&&mE (lN ops) (2 ^ ops.size - 1) dK cf T n C' (L ||| 2 ^ i) none) &&
     mE (lN ops) (2 ^ ops.size - 1) dK cf more (n+1) C L (some (l.filter fun k=>!Nat.beq k i)))=true:=by
     cases left with
     |none=>simp only at hl; subst hl; simp only [yN,oZ] at h; exact h
     |some l'=>simp only at hl; subst hl; simp only [oZ] at h; exact h
    simp only [Bool.and_eq_true] at h;obtain ⟨⟨⟨⟨W8,tL⟩,fN⟩,SE,hT⟩,hmore⟩:=h;unfold uJ at hs;refine ⟨fq.1 fN,fun k hk ZJ ok fa=>?_⟩;by_cases e:k=i
    ·subst e;rw [tK] at fa;cases fa;obtain ⟨ih,_⟩:=qk hA hP hF hK T n C' (listed.setIfInBounds k true) (L ||| 2 ^ k) (BA tL) (jX.add hA ZJ) (hM.add k);have h1:=hs.1;rw [aV,Array.getElem?_toList,tK] at h1;refine cg h1 fun s' h'=>⟨fun c hc oc QG q1 q2 q3 q4=>?_,oV n _ _ (vW (hM.add k) SE) (ih hT s' h'.2)⟩
     rw [tK] at q2;cases q2;have E8:=List.all_eq_true.1 W8 c hc;rw [iE q1] at E8;have q3':qS (lM ops oc) (lM ops oi)=true:=q3;simp only [q3',Bool.not_true,Bool.false_or,Bool.or_eq_true] at E8;rcases E8 with E8|E8
     ·have hm:c∈re:=fq.1 E8;have:∀ (re:List Nat),c∈re→By E f ops.toList re s'→Gk E f ops.toList oc s':=by
       intro re
       induction re with
       |nil=>intro hm; simp at hm
       |cons a re ihr=>
        intro hm ha;rcases List.mem_cons.1 hm with rfl|hm
        ·have:=ha.1;rw [aV,Array.getElem?_toList,q1] at this;exact this
        ·exact ihr hm ha.2
      exact this re hm h'.1
     ·exact absurd (fq.1 E8) q4
    ·obtain ⟨_,ih⟩:=qk hA hP hF hK more (n+1) C listed L hC jX hM;refine ih n _ rfl hmore s hs.2 k ?_ ZJ ok fa;rw [List.mem_filter];exact ⟨hk,by rw [oE e]; rfl⟩
  refine ⟨fun h s hs=>?_,fun m l e h s hs k hk ZJ ok fa=>?_⟩
  ·obtain ⟨m1,m2⟩:=main none _ rfl h s hs;have back:∀ k,k∈oY L 0 (lN ops)→k∈Region.ready .any ops listed:=fun k hk=>by
    obtain ⟨j,x,q1,q2,q3,q4⟩:=qi.1 hk;rw [Nat.zero_add] at q1;subst q1;rw [← aV] at q2;obtain ⟨o,ho,rfl⟩:=tM q2;exact sw hM ho q3 q4 (qU hP ho)
   have XB:∀ k,k∈Region.ready .any ops listed→k∈oY L 0 (lN ops):=fun k hk=>by
    obtain ⟨h1,o,ho,tL⟩:=mem_ready.1 hk;have bO:k < ops.size:=(Array.getElem?_eq_some_iff.1 ho).1;refine qi.2 ⟨k,lM ops o,by omega,lO ho,by rw [← hM.Eh bO]; exact h1,List.all_eq_true.2 fun e he=>?_⟩;obtain ⟨ed,q1,q2,rfl⟩:=jN.1 he;have h2:=tL ed (by simpa using q1) q2;rw [hM.Eh (qU hP ho ed (by simpa using q1) q2)] at h2;exact h2
   refine ⟨fun h0=>?_,fun k hk ok fa=>m2 k (XB k hk) hk ok fa⟩;have:=back i m1;rw [h0] at this;simp at this
  ·cases e;exact (main (some l) l rfl h s hs).2 k hk ZJ ok fa
theorem yT {R:ai} {w:World} {β:Nat→Nat} {F:Fence} {Qc:Exit→Act→World→Prop} {C:List Nat} (hQ:∀ a' w',qe E R w β s K a' w'→Qc .normal a' w') :
  ∀ (n:Nat) (listed:Array Bool) (R1:ai) (w1:World) (β1:Nat→Nat) (s1:St) (a1:Act),aX E R1 w1 β1 s1 a1→Step R w β s.boxes R1 w1 β1 s1.boxes→s1.ro=s.ro→bL R1 s1.ro F →
   gv E f ops dK C K n listed s1→wpAnyIn F 0 E.P .any ops Qc n listed a1 w1
 |0,listed,R1,w1,β1,s1,a1,hr,e9,bn,_,ha=>⟨ha.1,hQ _ _ ⟨s1,R1,β1,ha.2,hr,e9,bn⟩⟩
 |n+1,listed,R1,w1,β1,s1,a1,hr,e9,bn,hf,ha=>by
  refine ⟨fun h0=>hQ _ _ ⟨s1,R1,β1,ha.1 h0,hr,e9,bn⟩,fun i hi=>?_⟩;obtain ⟨_,o,ho,_⟩:=mem_ready.1 hi;unfold wpOpIn;simp only [ho];refine tE hr hf (ha.2 i hi o ho) _ ?_;rintro a' w' ⟨s',R',β',q1,q2,q3,q4⟩;exact yT hQ n _ R' w' β' s' a' q2 (e9.trans q3) (q4.trans bn) (by rw [q4]; exact hf.mono q3.ext) q1.2
theorem gb {K':St→Prop} (hK:∀ s,K s→K' s):∀ (T:DT) (s:St),uJ E f ops.toList T K s→uJ E f ops.toList T K' s
 |.done,s,h=>hK s h
 |.stop,_,_=>trivial
 |.take j C T,s,h=>by
  unfold uJ at h ⊢;split
  ·rename_i oj hj;rw [hj] at h;exact cg h fun s' h'=>gb hK T s' h'
  ·rename_i hj;rw [hj] at h;exact h
 |.al j W T,s,h=>by
  unfold uJ at h ⊢;split
  ·rename_i oj hj;rw [hj] at h;exact ⟨h.1,cg h.2 fun s' h'=>gb hK T s' h'⟩
  ·rename_i hj;rw [hj] at h;exact h
 |.br i re C T more,s,h=>by
  unfold uJ at h ⊢;refine ⟨?_,gb hK more s h.2⟩;have h:=h.1;split
  ·rename_i oj hj;rw [hj] at h;exact cg h fun s' h'=>⟨h'.1,gb hK T s' h'.2⟩
  ·rename_i hj;rw [hj] at h;exact h
structure az where
 dK:List (List Nat)
 cf:List (List Nat)
 T:DT
def Gv (ops:Array Oper) (p:az):Bool:=HQ (ops.toList.map (lM ops)) fun I=>
 CB ops.size fun n=>CB (2 ^ n - 1) fun N=>yM (LA p.dK) 0 I&&SC n I&&Ee I 0 I p.cf&&mE I N (LA p.dK) p.cf p.T n [] 0 none
theorem aX.drawn {R:ai} {w:World} {β:Nat→Nat} {a:Act} (h:aX E R w β s a):aX E R { w with drawn:=w.drawn+1 } β s a∧Step R w β s.boxes R { w with drawn:=w.drawn+1 } β s.boxes:=by
 have e:Ext R w R { w with drawn:=w.drawn+1 }:=⟨fun _ _ h=>h,fun _ _ _=>rfl,fun _ ro h=>⟨ro,h,cp.refl ro⟩,fh.refl w⟩;refine ⟨⟨⟨h.g.len,fun id go ro h1 h2=>(h.g.obj id go ro h1 h2).mono e (fun _ _=>rfl) (fun _ _ _ h=>h),h.g.inj,h.g.wf,fun g cs hg=>(h.g.dV g cs hg).mono e,Nat.le_succ_of_le h.g.lo⟩,?_,h.t.mono e,h.n,h.d⟩,?_⟩
 ·exact h.b.aZ e (fun _ _ _=>rfl) (fun _ _ _ _ h=>h) (fun _ _ _ h=>h)
 ·exact ⟨e,rfl,rfl,rfl,Nat.le_refl _,fun _ _ _=>rfl,fun _ _ h=>h,fun _ _ h _ _=>h⟩
theorem fE.draw {id:Nat} {p:az} {Q:Exit→St→Prop} (fa:Gv ops p=true) (h:uJ E f ops.toList p.T (Q .normal) s):fE E (.region id ops true) Q s:=fun R w β a F hr hf=>by
 simp only [Gv,Ef,oZ,Bool.and_eq_true] at fa;obtain ⟨⟨⟨hA,hP⟩,hF⟩,hT⟩:=fa;refine wpIn_region_any E.mixed ?_;obtain ⟨q1,q2⟩:=hr.drawn;have hK:Inv (fun s=>∃ u,qP u s∧Q .normal u):=fun s t e ⟨u,h1,h2⟩=>⟨u,h1.trans e,h2⟩
 have h':=gb (K':=fun s=>∃ u,qP u s∧Q .normal u) (fun s h=>⟨s,qP.refl s,h⟩) p.T s h;have jX:oW (LA p.dK) (Array.replicate ops.size false):=fun i hi=>by
  rw [Array.getD_eq_getD_getElem?,Array.getElem?_replicate] at hi;split at hi <;> cases hi
 have SG:=(qk (E:=E) (f:=f) (Gu hA) hP hF hK p.T ops.size [] (Array.replicate ops.size false) 0 (fun k hk=>by simp at hk) jX ⟨by simp,fun i hi=>by simp [hi]⟩).1 hT s h';refine yT (R:=R) (w:=w) (β:=β) (s:=s) (f:=f) (K:=fun s=>∃ u,qP u s∧Q .normal u) ?_ _ _ R _ β s a q1 q2 rfl hf SG;rintro a' w' ⟨s',R',β',⟨u,e,hu⟩,h2,h3,h4⟩;exact ⟨u,R',β',hu,h2.eqv e.symm,h3.eqv rfl e.symm.b,e.ro.trans h4⟩
end
end Go.Am
