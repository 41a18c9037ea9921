/- The abstract machine: regions whose order the tape draws,along a tree of choices that was checked. -/
import Derived.Test.YtldcljfjjoidhaaGreatDoorAmKG
set_option linter.all false
open Array renaming getElem?_eq_some_iff→aax, getElem?_toList→aaB, getD_eq_getD_getElem?→aa3, setIfInBounds_comm→aa6
open Bool renaming and_eq_true→aaa, or_eq_true→aa4, not_eq_true'→aa5
open Go.Region renaming ready→aab, binds→aaC
open List renaming all_eq_true→aac, cons_append→aaR, mem_cons→aaX, nil_append→aaY, mem_cons_of_mem→aa9
open Nat renaming eq_of_beq_eq_true→aaH, beq→aaM, zero_add→aaZ
namespace Go.Am
open Go
section
variable {E:Env} {s t:St} {f:FuncId} {ops:Array Oper} {o oj oi:Oper} {d:Tmp} {x:SV} {K K':St→Prop} {du:Nat→List Nat} {C:List Nat}
def Jq (E:Env) (f:FuncId) (ops:Array Oper) (du:Nat→List Nat) (C:List Nat) (i:Nat) (s:St):Prop:=
 ∀ j∈C,∀ oj oi,ops[j]?=some oj→ops[i]?=some oi→jz oj oi=true→j∉du i→Ge E f ops.toList oj s
def NC (ops:Array Oper) (C:List Nat):Prop:=∀ j∈C,∀ oj,ops[j]?=some oj→tT oj.op=true
theorem qq {i:Nat} (hC:NC ops C):Inv (Jq E f ops du C i):=fun _ _ e h j hj oj oi h1 h2 h3 h4=>Px (hC j hj oj h1) e (h j hj oj oi h1 h2 h3 h4)
def fJ (E:Env) (f:FuncId) (ops:Array Oper) (du:Nat→List Nat) (C:List Nat) (K:St→Prop):Nat→Array Bool→St→Prop
 |0,listed,s=>aab .any ops listed=[]∧K s
 |n+1,listed,s=>(aab .any ops listed=[]→K s) ∧
   ∀ i∈aab .any ops listed,∀ oi,ops[i]?=some oi→cn E f ops.toList oi (fun s'=>Jq E f ops du C i s'∧fJ E f ops du C K n (listed.setIfInBounds i true) s') s
theorem iw (hC:NC ops C) (hK:Inv K):∀ n listed,Inv (fJ E f ops du C K n listed)
 |0,_=>fun s t e h=>⟨h.1,hK s t e h.2⟩
 |n+1,_=>fun s t e h=>⟨fun h0=>hK s t e (h.1 h0),fun i hi oi te=>DM (fun s t e h=>⟨qq hC s t e h.1,iw hC hK n _ s t e h.2⟩) s t e (h.2 i hi oi te)⟩
theorem nV {C':List Nat}:∀ n (listed:Array Bool) (s:St),
  (∀ k∈C',k∈C∨∀ i ok oi,ops[k]?=some ok→ops[i]?=some oi→listed.getD i true=false→jz ok oi=true→k∈du i) →
  fJ E f ops du C K n listed s→fJ E f ops du C' K n listed s
 |0,_,_,_,h=>h
 |n+1,listed,s,hk,h=>⟨h.1,fun i hi oi te=>cp (h.2 i hi oi te) fun s' h'=>⟨fun k Vi ok TO h1 h2 h3 h4=>by
   rcases hk k Vi with h5|h5
   ·exact h'.1 k h5 ok TO h1 h2 h3 h4
   ·exact absurd (h5 i ok TO h1 h2 (mem_ready.1 hi).1 h3) h4,nV n _ s' (fun k Vi=>by
   rcases hk k Vi with h5|h5
   ·exact .inl h5
   ·refine .inr fun i' ok TO h1 h2 h3 h4=>h5 i' ok TO h1 h2 ?_ h4
    by_cases e:i=i'
    ·subst e; exact (mem_ready.1 hi).1
    ·rw [getD_set_ne true e] at h3; exact h3) h'.2⟩⟩
def Bf (ops:Array Oper) (du:Nat→List Nat):Prop:=∀ i oi a,ops[i]?=some oi→a∈du i→∃ e∈oi.after,aaC .any e=true∧(e.on=a∨a∈du e.on)
def nW (du:Nat→List Nat) (listed:Array Bool):Prop:=∀ i,listed.getD i false=true→∀ a∈du i,listed.getD a false=true
theorem nW.ready {listed:Array Bool} (h:nW du listed) (ha:Bf ops du) {i:Nat} (hi:i∈aab .any ops listed):∀ a∈du i,listed.getD a false=true:=fun a haa=>by
 obtain ⟨_,o,ho,oK⟩:=mem_ready.1 hi;obtain ⟨e,he,hb,h2⟩:=ha i o a ho haa;rcases h2 with rfl|h2
 ·exact oK e he hb
 ·exact h _ (oK e he hb) a h2
theorem jT {listed:Array Bool} {i:Nat} (h:listed.getD i false=true):listed.getD i true=true:=by
 rw [aa3] at *;cases hl:listed[i]? with
 |none=>rw [hl] at h; cases h
 |some b=>rw [hl] at h; exact h
theorem nW.add {listed:Array Bool} (h:nW du listed) (ha:Bf ops du) {i:Nat} (hi:i∈aab .any ops listed):nW du (listed.setIfInBounds i true):=fun k hk a haa=>by
 by_cases e:i=k
 ·subst e;exact getD_set_true (h.ready ha hi a haa)
 ·rw [getD_set_ne false e] at hk;exact getD_set_true (h k hk a haa)
theorem Gl (hA:Bf ops du) (hC:NC ops C) (hK:Inv K) {j:Nat} (hj:ops[j]?=some oj) (hN:tT oj.op=true) (HR:oj.dst=some d) (DO:d∉oj.looksAt ops)
  (hCd:∀ k∈C,∀ ok,ops[k]?=some ok→d∉ok.looksAt ops∧ok.dst≠some d):∀ n (listed:Array Bool) (s:St) (x:SV),nW du listed →
   (∀ i oi,ops[i]?=some oi→i≠j→listed.getD i true=false→(∀ e∈oi.after,aaC .any e=true→e.on≠j)→oj.apart ops oi=true) →
   j∈aab .any ops listed→ye E f ops oj s x→fJ E f ops du (j :: C) K n (listed.setIfInBounds j true) (s.put (some d) x)→fJ E f ops du C K (n+1) listed s:=by
 have O2:NC ops (j :: C):=fun k hk ok ho=>by
  rcases aaX.1 hk with rfl|hk
  ·rw [hj] at ho; cases ho; exact hN
  ·exact hC k hk ok ho
 have self:∀ n (listed:Array Bool) (s:St) (x:SV),ye E f ops oj s x→fJ E f ops du (j :: C) K n (listed.setIfInBounds j true) (s.put (some d) x)→∀ oi,ops[j]?=some oi →
   cn E f ops.toList oi (fun s'=>Jq E f ops du C j s'∧fJ E f ops du C K n (listed.setIfInBounds j true) s') s:=fun n listed s x hx h oi te=>by
  rw [hj] at te;cases te;refine yg hN (fun s t e h=>⟨qq hC s t e h.1,iw hC hK _ _ s t e h.2⟩) hx ?_;rw [HR];refine ⟨fun k _ ok TO _ h2 h3 _=>?_,nV n _ _ (fun k hk=>.inl (aa9 _ hk)) h⟩;rw [hj] at h2;cases h2;simp [jz,DK hN,hN] at h3
 intro n
 induction n with
 |zero=>
  intro listed s x _ _ hr hx h;refine ⟨fun h0=>by rw [h0] at hr; simp at hr,fun i hi oi te=>?_⟩;by_cases e:i=j
  ·subst e; exact self 0 listed s x hx h oi te
  ·have:=ready_mono hi e;rw [h.1] at this;simp at this
 |succ n ih=>
  intro listed s x jm jx hr hx h;refine ⟨fun h0=>by rw [h0] at hr; simp at hr,fun i hi oi te=>?_⟩;by_cases e:i=j
  ·subst e; exact self (n+1) listed s x hx h oi te
  ·have Lu:=(mem_ready.1 hi).1;have PB:=(mem_ready.1 hr).1;have UM:∀ ed∈oi.after,aaC .any ed=true→ed.on≠j:=fun ed he hb lG=>by
    obtain ⟨_,o,ho,oK⟩:=mem_ready.1 hi;rw [te] at ho;cases ho;have h1:=jT (oK ed he hb);rw [lG,PB] at h1;cases h1
   have TN:=jx i oi te e Lu UM;have hG:=h.2 i (ready_mono hi e) oi te;have Lv:j∉du i:=fun hm=>by
    have h1:=jT (jm.ready hA hi j hm);rw [PB] at h1;cases h1
   have hKi:Inv (fun s'=>Jq E f ops du (j :: C) i s'∧fJ E f ops du (j :: C) K n ((listed.setIfInBounds j true).setIfInBounds i true) s'):=
    fun s t e h=>⟨qq O2 s t e h.1,iw O2 hK _ _ s t e h.2⟩
   have Vj:∀ k ok,ops[k]?=some ok→k≠j→(listed.setIfInBounds i true).getD k true=false→(∀ e∈ok.after,aaC .any e=true→e.on≠j)→oj.apart ops ok=true:=fun k ok hk hkj Zj uq=>by
    refine jx k ok hk hkj ?_ uq;by_cases e':i=k
    ·subst e'; exact Lu
    ·rw [getD_set_ne true e'] at Zj; exact Zj
   have core:∀ {pre:bh} {preB:cO} {G:List GO},X6 (bX oi.op) oi.dst pre→(tT oi.op=true→preB=[]∧G=s.G) →
     (Jq E f ops du (j :: C) i ((s.put (some d) x).fw pre preB G)∧fJ E f ops du (j :: C) K n ((listed.setIfInBounds j true).setIfInBounds i true) ((s.put (some d) x).fw pre preB G)) →
     Jq E f ops du C i (s.fw pre preB G)∧fJ E f ops du C K (n+1) (listed.setIfInBounds i true) (s.fw pre preB G):=by
    intro pre preB G Ay Zi hk;obtain ⟨x',oJ,iG⟩:=Jl hN HR DO TN hKi hx Ay Zi hk (fun t' DQ hd=>DQ.1 j (List.mem_cons_self ..) oj oi hj te hd Lv);refine ⟨fun k Vi ok TO h1 h2 h3 h4=>?_,?_⟩
    ·obtain ⟨q1,q2⟩:=hCd k Vi ok h1;obtain ⟨b1,b2,b3,_⟩:=fX (s.fw pre preB G) (some d) x';exact Pw (hC k Vi ok h1) q1 q2 (fun e he=>wI _ _ _ he) (by rw [b1]) b2 b3 (iG.1 k (aa9 _ Vi) ok TO h1 h2 h3 h4)
    ·refine ih (listed.setIfInBounds i true) _ x' (jm.add hA hi) Vj (ready_mono hr (Ne.symm e)) oJ ?_;rw [aa6 _ _ e];exact iG.2
   rw [fW (fun s t e h=>⟨qq hC s t e h.1,iw hC hK _ _ s t e h.2⟩)];obtain ⟨Dp,_,_⟩:=Oper.apart_spec TN;have wG:∀ e∈oi.looksAt ops,lk (s.put (some d) x).ae e=lk s.ae e:=fun e he=>wI s d x fun k=>Dp d HR (k ▸ he)
   obtain ⟨b1,b2,b3,b4,b5⟩:=fX s (some d) x;rcases (fW hKi).1 hG with ⟨h1,h2⟩|⟨h1,h2⟩
   ·refine .inl ⟨by rw [← kq wG]; exact h1,ux b3 b2 (by rw [b1]) (kF wG) h2 fun pre preB G hp Zi hk=>core hp (fun hh=>?_) hk⟩;obtain ⟨q1,q2⟩:=Zi hh;exact ⟨q1,by rw [q2,b2]⟩
   ·refine .inr ⟨by rw [← kq wG]; exact h1,?_⟩;obtain ⟨pre,preB,G,p1,p2,p3,p4⟩:=bW.put (s:=s.put (some d) x) (t:=s) (al:=bX oi.op) (w:=false) b3 b2 oi.dst (.v fO);obtain ⟨q1,q2,_⟩:=p2 rfl;rw [p3] at h2;rw [p4];exact core p1 (fun _=>⟨q1,by rw [q2,b2]⟩) h2
theorem HU {i:Nat} {s:St}:Jq E f ops du [] i s:=fun j hj=>by cases hj
theorem Vk {y:Operand} {k off:Nat} (h:bJ E s.ae y=.lp k off):∃ e,y=.tmp e∧lk s.ae e=.lp k off:=by
 cases y with
 |tmp e=>exact ⟨e,rfl,h⟩
 |const v=>simp only [bJ] at h; split at h <;> cases h
 |global g=>simp only [bJ] at h; split at h <;> cases h
 |func g=>cases h
theorem Lw (hA:Bf ops du) (hK:Inv K) {j:Nat} (hj:ops[j]?=some oj) (hg:oj.guard=none) (HR:oj.dst=some d) (Az:bX oj.op=true) (Vl:E.BQ f d=false):∀ n (listed:Array Bool) (s s1:St),nW du listed →
  (∀ i oi,ops[i]?=some oi→i≠j→listed.getD i true=false→j∉du i→oj.apart ops oi=true∧∀ e∈oi.looksAt ops,∀ off,lk s.ae e≠.lp d off) →
  j∈aab .any ops listed→an E f s oj=some (true,s1)→fJ E f ops du [] K n (listed.setIfInBounds j true) s1→fJ E f ops du [] K (n+1) listed s:=by
 have O2:NC ops []:=fun k hk=>by cases hk
 have self:∀ n (listed:Array Bool) (s s1:St),an E f s oj=some (true,s1)→fJ E f ops du [] K n (listed.setIfInBounds j true) s1→∀ oi,ops[j]?=some oi →
   cn E f ops.toList oi (fun s'=>Jq E f ops du [] j s'∧fJ E f ops du [] K n (listed.setIfInBounds j true) s') s:=fun n listed s s1 hx h oi te=>by
  rw [hj] at te;cases te;unfold cn;rw [hg];exact (HT Az).2 ⟨s1,hx,HU,h⟩
 intro n
 induction n with
 |zero=>
  intro listed s s1 _ _ hr hx h;refine ⟨fun h0=>by rw [h0] at hr; simp at hr,fun i hi oi te=>?_⟩;by_cases e:i=j
  ·subst e; exact self 0 listed s s1 hx h oi te
  ·have:=ready_mono hi e;rw [h.1] at this;simp at this
 |succ n ih=>
  intro listed s s1 jm jx hr hx h;refine ⟨fun h0=>by rw [h0] at hr; simp at hr,fun i hi oi te=>?_⟩;by_cases e:i=j
  ·subst e; exact self (n+1) listed s s1 hx h oi te
  ·have Lu:=(mem_ready.1 hi).1;have PB:=(mem_ready.1 hr).1;have Lv:j∉du i:=fun hm=>by
    have h1:=jT (jm.ready hA hi j hm);rw [PB] at h1;cases h1
   obtain ⟨TN,uq⟩:=jx i oi te e Lu Lv;obtain ⟨Dp,cQ,FM⟩:=Oper.apart_spec TN;have Ls:oi.dst≠some d:=cQ d HR;obtain ⟨_,cs,rfl,HJ⟩:=Gj Az HR Vl hx;have hG:=h.2 i (ready_mono hi e) oi te;have hKi:Inv (fun s'=>Jq E f ops du [] i s'∧fJ E f ops du [] K n ((listed.setIfInBounds j true).setIfInBounds i true) s'):=
    fun s t e h=>⟨qq O2 s t e h.1,iw O2 hK _ _ s t e h.2⟩
   have Jp:∀ y∈oi.op.operands,∀ off,bJ E s.ae y≠.lp d off:=fun y hy off hv=>by
    obtain ⟨e',rfl,hv⟩:=Vk hv;exact uq e' (nU hy) off hv
   have core:∀ {pre:bh} {preB:cO} {G:List GO},iK E s oi (s.fw pre preB G) →
     (Jq E f ops du [] i ((rR s d cs).fw pre preB G)∧fJ E f ops du [] K n ((listed.setIfInBounds j true).setIfInBounds i true) ((rR s d cs).fw pre preB G)) →
     Jq E f ops du [] i (s.fw pre preB G)∧fJ E f ops du [] K (n+1) (listed.setIfInBounds i true) (s.fw pre preB G):=by
    intro pre preB G PA hk;refine ⟨HU,?_⟩;obtain ⟨o1,o2⟩:=HS PA;have wG:∀ e' off,oi.dst≠some e'∨lk (s.fw pre preB G).ae e'=.lp d off→lk (s.fw pre preB G).ae e'=.lp d off→lk s.ae e'=.lp d off:=by
     intro e' off _ hv;have hv:lk (pre++s.ae) e'=.lp d off:=hv;rcases o1 with rfl|⟨d',x,Hy,hp,Zk⟩
     ·exact hv
     ·have oJ:∀ off,x≠.lp d off:=fun off c=>by
       rcases Zk d off c with ⟨y,hy,fQ,ho⟩|⟨_,h⟩
       ·exact Jp y hy fQ ho
       ·exact Ls (by rw [Hy,h])
      by_cases c2:d'=e'
      ·subst c2;rcases hp with rfl|rfl
       ·simp only [aaR,aaY,ay] at hv; exact absurd hv (oJ off)
       ·simp only [aaR,aaY,ay] at hv; exact absurd hv (oJ off)
      ·rcases hp with rfl|rfl
       ·simp only [aaR,aaY] at hv; rwa [aQ c2] at hv
       ·simp only [aaR,aaY] at hv;rw [aQ c2,jA] at hv;cases hl:lk s.ae e' with
        |lp k fQ=>
         rw [hl] at hv;simp only at hv;cases hb:aaM k d' with
         |true=>rw [hb] at hv; cases hv
         |false=>rw [hb] at hv; exact hv
        |v a=>rw [hl] at hv; cases hv
        |none=>rw [hl] at hv; cases hv
    refine ih (listed.setIfInBounds i true) _ _ (jm.add hA hi) ?_ (ready_mono hr (Ne.symm e)) (HJ (s.fw pre preB G) rfl ?_) ?_
    ·intro k ok iG hkj Zj ac6;have ac7:listed.getD k true=false:=by
      by_cases e':i=k
      ·subst e'; exact Lu
      ·rw [getD_set_ne true e'] at Zj; exact Zj
     obtain ⟨q1,q2⟩:=jx k ok iG hkj ac7 ac6;exact ⟨q1,fun e' X8 off hv=>q2 e' X8 off (wG e' off (.inr hv) hv)⟩
    ·intro y hy v hv;cases y with
     |tmp e'=>
      have Hy:oi.dst≠some e':=fun c=>FM e' c (nU hy)
      have hv:lk s.ae e'=.v v:=hv;show lk (pre++s.ae) e'=.v v;rcases o1 with rfl|⟨d',x,Zb,hp,_⟩
      ·exact hv
      ·have c2:d'≠e':=fun c=>Hy (by rw [Zb,c])
       rcases hp with rfl|rfl
       ·simp only [aaR,aaY]; rw [aQ c2]; exact hv
       ·simp only [aaR,aaY];rw [aQ c2,yi (fun off=>by rw [hv]; intro c; cases c)]; exact hv
     |const _=>exact hv
     |global _=>exact hv
     |func _=>exact hv
    ·rw [aa6 _ _ e];exact iw O2 hK _ _ _ _ (Jo cs PA Ls Jp) hk.2
   have Ce:∀ e'∈oi.looksAt ops,lk (rR s d cs).ae e'=lk s.ae e':=fun e' X8=>by
    have c1:d≠e':=fun c=>Dp d HR (c ▸ X8)
    show lk (.put d (.lp d 0) :: .kill d :: s.ae) e'=_;rw [aQ c1,yi (uq e' X8)]
   have FJ:∀ k off,(∃ y∈oi.op.operands,bJ E (rR s d cs).ae y=.lp k off)→dy (rR s d cs).boxes k=dy s.boxes k:=by
    rintro k off ⟨y,hy,hv⟩;rw [kF Ce y hy] at hv;have OS:d≠k:=fun c=>Jp y hy off (by rw [c]; exact hv)
    show dy ((d,cs) :: s.boxes) k=dy s.boxes k;simp only [dy];cases hb:aaM d k with
    |true=>exact absurd (aaH hb) OS
    |false=>rfl
   rw [fW (fun s t e h=>⟨qq O2 s t e h.1,iw O2 hK _ _ s t e h.2⟩)];rcases (fW hKi).1 hG with ⟨h1,h2⟩|⟨h1,h2⟩
   ·exact .inl ⟨by rw [← kq Ce]; exact h1,Gk (s:=rR s d cs) (t:=s) rfl rfl FJ (kF Ce) h2 fun pre preB G hO hk=>core hO hk⟩
   ·refine .inr ⟨by rw [← kq Ce]; exact h1,?_⟩;obtain ⟨pre,preB,G,p1,p2,p3,p4⟩:=bW.put (s:=rR s d cs) (t:=s) (al:=bX oi.op) (w:=false) rfl rfl oi.dst (.v fO);rw [p3] at h2;have hO:iK E s oi (s.put oi.dst (.v fO)):=lM rfl rfl _;rw [p4] at hO ⊢;exact core hO h2
end
inductive DT where
 |done
 |take (j:Nat) (C:List Nat) (t:DT)
 |br (i:Nat) (re C:List Nat) (t:DT) (more:DT)
 |stop
 |al (j:Nat) (W:List Nat) (t:DT)
structure nX where
 dst:Option Tmp
 lo:List Tmp
 pr:List Nat
 n:Bool
 r:Bool
 a:Bool
def HV (d:Nat) (s:bh):List Nat→Bool
 |[]=>true
 |e :: l=>(match lk s e with
  |.lp k _=>!aaM k d
  |_=>true)&&HV d s l
def Vm (E:Env) (f:FuncId) (o:Oper) (W:List Nat) (s:St):Bool:=match o.guard,o.dst with
 |none,some d=>!E.BQ f d&&HV d s.ae W
 |_,_=>false
def jU (x:Nat):List Nat→Bool
 |[]=>false
 |y :: l=>aaM x y || jU x l
def qt:List Edge→List Nat
 |[]=>[]
 |e :: l=>bif aaC .any e then e.on :: qt l else qt l
def kG (ops:Array Oper) (o:Oper):nX:=⟨o.dst,o.looksAt ops,qt o.after.toList,tT o.op,Vh o.op,bX o.op⟩
def Cf {α:Type} (n:Nat) (K:Nat→α):α:=match n with
 |0=>K 0
 |m+1=>K (Nat.succ m)
def Bg {α:Type}:List Nat→(List Nat→α)→α
 |[],K=>K []
 |a :: l,K=>Cf a fun a=>Bg l fun l=>K (a :: l)
def Vn {α:Type} (i:nX) (K:nX→α):α:=match i with
 |⟨d,lo,pr,n,r,a⟩=>Bg lo fun lo=>Bg pr fun pr=>(match d with
  |none=>(fun (K:Option Tmp→α)=>K none)
  |some d=>(fun (K:Option Tmp→α)=>Cf d fun d=>K (some d))) fun d=>(bif n then (fun (K:Bool→α)=>K true) else fun K=>K false) fun n=>
   (bif r then (fun (K:Bool→α)=>K true) else fun K=>K false) fun r=>(bif a then (fun (K:Bool→α)=>K true) else fun K=>K false) fun a=>K ⟨d,lo,pr,n,r,a⟩
def HW {α:Type}:List nX→(List nX→α)→α
 |[],K=>K []
 |i :: l,K=>Vn i fun i=>HW l fun l=>K (i :: l)
def uz (x y:nX):Bool:=
 (match x.dst with
 |some d=>!jU d y.lo&&(match y.dst with | some e=>!aaM e d | none=>true)
 |none=>true) &&
 (match y.dst with
 |some d=>!jU d x.lo
 |none=>true)
def DR (j:Nat) (x:nX) (cf:List Nat):Nat→List nX→Bool
 |_,[]=>true
 |i,y :: l=>(aaM i j || jU j y.pr || jU i cf || uz x y)&&DR j x cf (i+1) l
def DS (I:List nX):Nat→List nX→List (List Nat)→Bool
 |_,[],_=>true
 |j,x :: l,c :: cs=>(!x.n || DR j x c 0 I)&&DS I (j+1) l cs
 |_,_,_=>false
def yj (du:Nat→List Nat):Nat→List nX→Bool
 |_,[]=>true
 |i,x :: l=>(du i).all (fun a=>x.pr.any fun e=>aaM e a || jU a (du e))&&yj du (i+1) l
def nY (L:Nat):Nat→List nX→List Nat
 |_,[]=>[]
 |i,x :: l=>bif !L.testBit i&&x.pr.all (fun e=>L.testBit e) then i :: nY L (i+1) l else nY L (i+1) l
def qu (x y:nX):Bool:=y.a || (x.r&&!y.n)
def qv (du:Nat→List Nat) (L k:Nat) (x:nX):Nat→List nX→Bool
 |_,[]=>true
 |i,y :: l=>(L.testBit i || !qu x y || jU k (du i))&&qv du L k x (i+1) l
def wJ (I:List nX) (du:Nat→List Nat) (L:Nat) (C C':List Nat):Bool:=C.all fun k=>jU k C' || match nth I k with
 |none=>false
 |some x=>qv du L k x 0 I
def TP (I:List nX) (du:Nat→List Nat) (C re:List Nat) (i:Nat) (y:nX):Bool:=C.all fun k=>jU k re || match nth I k with
 |none=>false
 |some x=>!qu x y || jU k (du i)
def HX (du:Nat→List Nat) (L:Nat) (W:List Nat) (j:Nat) (x:nX):Nat→List nX→Bool
 |_,[]=>true
 |i,y :: l=>(aaM i j || L.testBit i || jU j (du i) || (uz x y&&y.lo.all fun e=>jU e W))&&HX du L W j x (i+1) l
def HY (I:List nX) (C:List Nat):Bool:=C.all fun k=>match nth I k with
 |some x=>x.n
 |none=>false
def lx (I:List nX) (N:Nat) (du:Nat→List Nat) (cf:List (List Nat)):DT→Nat→List Nat→Nat→Option (List Nat)→Bool
 |.done,_,_,L,none=>aaM L N
 |.take j C' t,n+1,C,L,none=>match nth I j,nth cf j with
  |some x,some c=>match x.dst with
   |none=>false
   |some d=>x.n&&!jU d x.lo&&(C.all fun k=>match nth I k with
     |none=>false
     |some y=>!jU d y.lo&&(match y.dst with | some e=>!aaM e d | none=>true)) &&
    c.all (fun i=>L.testBit i)&&!L.testBit j&&x.pr.all (fun e=>L.testBit e)&&HY I C' &&
    Cf (L ||| 2 ^ j) fun L'=>wJ I du L' (j :: C) C'&&lx I N du cf t n C' L' none
  |_,_=>false
 |.br i re C' t more,n+1,C,L,left=>match nth I i with
  |none=>false
  |some y=>(match left with
   |none=>fun (K:List Nat→Bool)=>Bg (nY L 0 I) K
   |some l=>fun K=>K l) fun l=>
    TP I du C re i y&&HY I C'&&jU i l&&(Cf (L ||| 2 ^ i) fun L'=>wJ I du L' C C'&&lx I N du cf t n C' L' none) &&
     lx I N du cf more (n+1) C L (some (l.filter fun k=>!aaM k i))
 |.stop,_,_,_,some l=>l.isEmpty
 |.al j W t,n+1,C,L,none=>match nth I j with
  |some x=>match x.dst with
   |none=>false
   |some _=>C.isEmpty&&x.a&&!L.testBit j&&x.pr.all (fun e=>L.testBit e)&&HX du L W j x 0 I&&Cf (L ||| 2 ^ j) fun L'=>lx I N du cf t n [] L' none
  |none=>false
 |_,_,_,_,_=>false
def Bh (E:Env) (f:FuncId) (ops:List Oper):List Nat→St→Prop
 |[],_=>True
 |k :: l,s=>(match nth ops k with
  |some ok=>Ge E f ops ok s
  |none=>True)∧Bh E f ops l s
def tU (E:Env) (f:FuncId) (ops:List Oper):DT→(St→Prop)→St→Prop
 |.done,K,s=>K s
 |.take j _ t,K,s=>match nth ops j with
  |some oj=>cn E f ops oj (tU E f ops t K) s
  |none=>False
 |.br i re _ t more,K,s=>(match nth ops i with
  |some oi=>cn E f ops oi (fun s'=>Bh E f ops re s'∧tU E f ops t K s') s
  |none=>False)∧tU E f ops more K s
 |.stop,_,_=>True
 |.al j W t,K,s=>match nth ops j with
  |some oj=>Vm E f oj W s=true∧cn E f ops oj (tU E f ops t K) s
  |none=>False
def Lx (l:List (List Nat)) (i:Nat):List Nat:=match nth l i with
 |some a=>a
 |none=>[]
section
variable {E:Env} {s t:St} {f:FuncId} {ops:Array Oper} {K:St→Prop} {du:Nat→List Nat}
theorem eQ {x:Nat}:∀ {l:List Nat},jU x l=true↔x∈l
 |[]=>by simp [jU]
 |y :: l=>by simp [jU,eQ (l:=l)]
theorem nZ {α:Type} (n:Nat) (K:Nat→α):Cf n K=K n:=by cases n <;> rfl
theorem yk {α:Type}:∀ (l:List Nat) (K:List Nat→α),Bg l K=K l
 |[],_=>rfl
 |a :: l,K=>by simp only [Bg,nZ]; rw [yk]
theorem PC {α:Type} (i:nX) (K:nX→α):Vn i K=K i:=by
 obtain ⟨d,lo,pr,n,r,a⟩:=i;cases d <;> cases n <;> cases r <;> cases a <;> simp [Vn,yk,nZ]
theorem DU {α:Type}:∀ (l:List nX) (K:List nX→α),HW l K=K l
 |[],_=>rfl
 |a :: l,K=>by simp only [HW,PC]; rw [DU]
def kH (ops:Array Oper):List nX:=ops.toList.map (kG ops)
theorem tf {k:Nat} {x:nX} (h:nth (kH ops) k=some x):∃ o,ops[k]?=some o∧x=kG ops o:=by
 rw [bg,kH,List.getElem?_map,aaB] at h;cases ho:ops[k]? with
 |none=>rw [ho] at h; cases h
 |some o=>rw [ho] at h; exact ⟨o,rfl,by simpa using h.symm⟩
theorem jf {e:Nat}:∀ {l:List Edge},e∈qt l↔∃ ed∈l,aaC .any ed=true∧ed.on=e
 |[]=>by simp [qt]
 |x :: l=>by
  unfold qt;cases hb:aaC .any x with
  |true=>
   simp only [cond_true,aaX,jf (l:=l),exists_eq_or_imp,hb,true_and];constructor
   ·rintro (h|h)
    ·exact .inl h.symm
    ·exact .inr h
   ·rintro (h|h)
    ·exact .inl h.symm
    ·exact .inr h
  |false=>simp only [cond_false,aaX,jf (l:=l),exists_eq_or_imp,hb,false_and,false_or,Bool.false_eq_true]
theorem Bi {x y:Oper} (h:uz (kG ops x) (kG ops y)=true):x.apart ops y=true:=by
 have hm:∀ (d:Nat) (l:List Nat),jU d l=false→l.contains d=false:=fun d l h=>by
  cases hc:l.contains d with
  |false=>rfl
  |true=>rw [eQ.2 (by simpa using hc)] at h; cases h
 unfold uz at h;unfold Oper.apart;simp only [kG,aaa] at h ⊢;refine ⟨?_,?_⟩
 ·cases hx:x.dst with
  |none=>rfl
  |some d=>
   rw [hx] at h;simp only [aaa,aa5] at h ⊢;refine ⟨hm _ _ h.1.1,?_⟩;have h2:=h.1.2;cases hy:y.dst with
   |none=>rfl
   |some e=>
    rw [hy] at h2;simp only [aa5] at h2;have:e≠d:=fun k=>by rw [k,sH] at h2; cases h2
    simpa using this
 ·cases hy:y.dst with
  |none=>rfl
  |some d=>
   rw [hy] at h;simp only [aa5] at h ⊢;exact hm _ _ h.2
def DV (ops:Array Oper) (L:Nat) (listed:Array Bool):Prop:=listed.size=ops.size∧∀ i,i < ops.size→listed[i]?=some (L.testBit i)
theorem DV.add {L:Nat} {listed:Array Bool} (h:DV ops L listed) (j:Nat):DV ops (L ||| 2 ^ j) (listed.setIfInBounds j true):=by
 refine ⟨by simp [h.1],fun i hi=>?_⟩;rw [Nat.testBit_or,Nat.testBit_two_pow];by_cases e:j=i
 ·subst e;rw [Array.getElem?_setIfInBounds_self_of_lt (by rw [h.1]; exact hi)];simp
 ·rw [Array.getElem?_setIfInBounds_ne e,h.2 i hi];simp [e]
theorem DV.DW {L:Nat} {listed:Array Bool} (h:DV ops L listed) {i:Nat} (hi:i < ops.size) (b:Bool):listed.getD i b=L.testBit i:=by
 rw [aa3,h.2 i hi]; rfl
theorem rS {L:Nat} {listed:Array Bool} (h:DV ops L listed) {j:Nat} {o:Oper} (ho:ops[j]?=some o) (h1:L.testBit j=false) (h2:((kG ops o).pr.all fun e=>L.testBit e)=true)
  (bZ:∀ e∈o.after,aaC .any e=true→e.on < ops.size):j∈aab .any ops listed:=by
 have hj:j < ops.size:=(aax.1 ho).1;refine mem_ready.2 ⟨by rw [h.DW hj]; exact h1,o,ho,fun e he hb=>?_⟩;rw [h.DW (bZ e he hb)];exact aac.1 h2 e.on (jf.2 ⟨e,by simpa using he,hb,rfl⟩)
def Vo (n:Nat) (I:List nX):Bool:=I.all fun x=>x.pr.all fun e=>Nat.blt e n
theorem gO {k:Nat} {o:Oper} (h:ops[k]?=some o):nth (kH ops) k=some (kG ops o):=by
 rw [bg,kH,List.getElem?_map,aaB,h]; rfl
theorem kI {k:Nat} {o:Oper} (h:ops[k]?=some o):(kH ops)[k]?=some (kG ops o):=by
 rw [← bg]; exact gO h
theorem qw (h:Vo ops.size (kH ops)=true) {k:Nat} {o:Oper} (ho:ops[k]?=some o):∀ e∈o.after,aaC .any e=true→e.on < ops.size:=fun e he hb=>by
 have h1:=aac.1 h (kG ops o) (List.mem_of_getElem? (kI ho));have h2:=aac.1 h1 e.on (jf.2 ⟨e,by simpa using he,hb,rfl⟩);exact Nat.le_of_ble_eq_true h2
theorem yl {j:Nat} {x:nX} {c:List Nat}:∀ {l:List nX} {i:Nat},DR j x c i l=true→∀ k y,l[k]?=some y→(aaM (i+k) j || jU j y.pr || jU (i+k) c || uz x y)=true
 |[],_,_,k,y,hk=>by simp at hk
 |z :: l,i,h,k,y,hk=>by
  unfold DR at h;rw [aaa] at h;cases k with
  |zero=>simp at hk; subst hk; exact h.1
  |succ k=>
   have:=yl h.2 k y (by simpa using hk);rw [show i+1+k=i+(k+1) by omega] at this;exact this
theorem ym {I:List nX}:∀ {l:List nX} {j:Nat} {cs:List (List Nat)},DS I j l cs=true→∀ k x c,l[k]?=some x→cs[k]?=some c→x.n=true→DR (j+k) x c 0 I=true
 |[],_,_,_,k,x,c,hk,_,_=>by simp at hk
 |z :: l,j,[],_,k,x,c,_,hc,_=>by simp at hc
 |z :: l,j,d :: cs,h,k,x,c,hk,hc,hn=>by
  unfold DS at h;rw [aaa] at h;cases k with
  |zero=>
   simp at hk hc;subst hk hc;have:=h.1;rw [hn] at this;simpa using this
  |succ k=>
   have:=ym h.2 k x c (by simpa using hk) (by simpa using hc) hn;rw [show j+1+k=j+(k+1) by omega] at this;exact this
theorem vx:∀ {l:List nX} {i:Nat},yj du i l=true→∀ k x,l[k]?=some x→∀ a∈du (i+k),∃ e∈x.pr,e=a∨a∈du e
 |[],_,_,k,x,hk=>by simp at hk
 |z :: l,i,h,k,x,hk=>by
  unfold yj at h;rw [aaa] at h;cases k with
  |zero=>
   simp at hk;subst hk;intro a ha;have h1:=aac.1 h.1 a ha;obtain ⟨e,he,h2⟩:=List.any_eq_true.1 h1;rw [aa4] at h2;refine ⟨e,he,?_⟩;rcases h2 with h2|h2
   ·exact .inl (aaH h2)
   ·exact .inr (eQ.1 h2)
  |succ k=>
   have:=vx h.2 k x (by simpa using hk);rw [show i+1+k=i+(k+1) by omega] at this;exact this
theorem Gm (h:yj du 0 (kH ops)=true):Bf ops du:=fun i oi a hi ha=>by
 have h1:=vx h i _ (kI hi) a (by rw [aaZ]; exact ha);obtain ⟨e,he,h2⟩:=h1;obtain ⟨ed,q1,q2,rfl⟩:=jf.1 he;exact ⟨ed,by simpa using q1,q2,h2⟩
theorem pD {L:Nat}:∀ {l:List nX} {i k:Nat},k∈nY L i l↔∃ j x,k=i+j∧l[j]?=some x∧L.testBit k=false∧(x.pr.all fun e=>L.testBit e)=true
 |[],i,k=>by simp [nY]
 |z :: l,i,k=>by
  have ih:=pD (L:=L) (l:=l) (i:=i+1) (k:=k);have rest:(∃ j x,k=i+1+j∧l[j]?=some x∧L.testBit k=false∧(x.pr.all fun e=>L.testBit e)=true)↔∃ j x,k=i+(j+1)∧(z :: l)[j+1]?=some x∧L.testBit k=false∧(x.pr.all fun e=>L.testBit e)=true:=by
   constructor
   ·rintro ⟨j,x,h1,h2⟩; exact ⟨j,x,by omega,by simpa using h2⟩
   ·rintro ⟨j,x,h1,h2⟩; exact ⟨j,x,by omega,by simpa using h2⟩
  unfold nY;cases hc:(!L.testBit i&&z.pr.all fun e=>L.testBit e) with
  |true=>
   simp only [cond_true,aaX,ih,rest];rw [aaa,aa5] at hc;constructor
   ·rintro (rfl|⟨j,x,h⟩)
    ·exact ⟨0,z,rfl,rfl,hc⟩
    ·exact ⟨j+1,x,h⟩
   ·rintro ⟨j,x,h1,h2⟩;cases j with
    |zero=>exact .inl h1
    |succ j=>exact .inr ⟨j,x,h1,h2⟩
  |false=>
   simp only [cond_false,ih,rest];constructor
   ·rintro ⟨j,x,h⟩; exact ⟨j+1,x,h⟩
   ·rintro ⟨j,x,h1,h2,h3,h4⟩;cases j with
    |zero=>
     simp at h2 h1;subst h1 h2;rw [h3,h4] at hc;cases hc
    |succ j=>exact ⟨j,x,h1,h2,h3,h4⟩
theorem pE {L k:Nat} {x:nX}:∀ {l:List nX} {i:Nat},qv du L k x i l=true→∀ j y,l[j]?=some y→L.testBit (i+j)=false→qu x y=true→k∈du (i+j)
 |[],_,_,j,y,hj=>by simp at hj
 |z :: l,i,h,j,y,hj=>by
  unfold qv at h;rw [aaa] at h;cases j with
  |zero=>
   simp at hj;subst hj;intro h1 h2;have h3:=h.1;rw [Nat.add_zero] at h1;rw [h1,h2] at h3;exact eQ.1 (by simpa using h3)
  |succ j=>
   have:=pE h.2 j y (by simpa using hj);rw [show i+1+j=i+(j+1) by omega] at this;exact this
theorem vy {L:Nat} {listed:Array Bool} (hM:DV ops L listed) {C C':List Nat} (h:wJ (kH ops) du L C C'=true):∀ k∈C,k∈C'∨∀ i ok oi,ops[k]?=some ok→ops[i]?=some oi→listed.getD i true=false→jz ok oi=true→k∈du i:=fun k hk=>by
 have h1:=aac.1 h k hk;rw [aa4] at h1;rcases h1 with h1|h1
 ·exact .inl (eQ.1 h1)
 ·refine .inr fun i ok oi q1 q2 q3 q4=>?_
  rw [gO q1] at h1;have hi:i < ops.size:=(aax.1 q2).1;have:=pE h1 i _ (kI q2) (by rw [aaZ,← hM.DW hi]; exact q3) q4;rw [aaZ] at this;exact this
theorem Bj {C:List Nat} (h:HY (kH ops) C=true):NC ops C:=fun k hk ok eJ=>by
 have:=aac.1 h k hk;rw [gO eJ] at this;exact this
theorem yn {L j:Nat} {x:nX} {W:List Nat}:∀ {l:List nX} {i:Nat},HX du L W j x i l=true→∀ k y,l[k]?=some y→(aaM (i+k) j || L.testBit (i+k) || jU j (du (i+k)) || (uz x y&&y.lo.all fun e=>jU e W))=true
 |[],_,_,k,y,hk=>by simp at hk
 |z :: l,i,h,k,y,hk=>by
  unfold HX at h;rw [aaa] at h;cases k with
  |zero=>simp at hk; subst hk; exact h.1
  |succ k=>
   have:=yn h.2 k y (by simpa using hk);rw [show i+1+k=i+(k+1) by omega] at this;exact this
theorem yo {d:Nat} {s:bh}:∀ {l:List Nat},HV d s l=true→∀ e∈l,∀ off,lk s e≠.lp d off
 |[],_,e,he,_=>by cases he
 |a :: l,h,e,he,off=>by
  unfold HV at h;rw [aaa] at h;rcases aaX.1 he with rfl|he
  ·intro hv;have h1:=h.1;rw [hv] at h1;simp only [sH] at h1;cases h1
  ·exact yo h.2 e he off
theorem pF {cf:List (List Nat)} (hA:Bf ops du) (hP:Vo ops.size (kH ops)=true) (hF:DS (kH ops) 0 (kH ops) cf=true) (hK:Inv K):∀ (T:DT) (n:Nat) (C:List Nat) (listed:Array Bool) (L:Nat),NC ops C→nW du listed→DV ops L listed →
  (lx (kH ops) (2 ^ ops.size - 1) du cf T n C L none=true→∀ s,tU E f ops.toList T K s→fJ E f ops du C K n listed s) ∧
  (∀ m l,n=m+1→lx (kH ops) (2 ^ ops.size - 1) du cf T n C L (some l)=true→∀ s,tU E f ops.toList T K s→∀ i∈l,i∈aab .any ops listed→∀ oi,ops[i]?=some oi →
   cn E f ops.toList oi (fun s'=>Jq E f ops du C i s'∧fJ E f ops du C K m (listed.setIfInBounds i true) s') s)
 |.done,n,C,listed,L,hC,jm,hM=>by
  refine ⟨fun h s hs=>?_,fun m l _ h=>by simp [lx] at h⟩;have hL:L=2 ^ ops.size - 1:=aaH (by simpa only [lx] using h);have hr:aab .any ops listed=[]:=by
   apply List.eq_nil_iff_forall_not_mem.2;intro j hj;obtain ⟨h1,o,ho,_⟩:=mem_ready.1 hj;have bZ:j < ops.size:=(aax.1 ho).1;rw [hM.DW bZ,hL,Nat.testBit_two_pow_sub_one] at h1;simp [bZ] at h1
  cases n with
  |zero=>exact ⟨hr,hs⟩
  |succ n=>exact ⟨fun _=>hs,fun i hi=>by rw [hr] at hi; simp at hi⟩
 |.stop,n,C,listed,L,hC,jm,hM=>by
  refine ⟨fun h=>by cases n <;> simp [lx] at h,fun m l e h s _ i hi=>?_⟩;subst e;have:l=[]:=by simpa [lx] using h
  rw [this] at hi;simp at hi
 |.al j W T,0,C,listed,L,hC,jm,hM=>⟨fun h=>by simp [lx] at h,fun m l e=>by cases e⟩
 |.al j W T,n+1,C,listed,L,hC,jm,hM=>by
  refine ⟨fun h s hs=>?_,fun m l _ h=>by simp [lx] at h⟩;unfold lx at h;split at h
  ·rename_i x hx;obtain ⟨oj,hj,rfl⟩:=tf hx;split at h
   ·cases h
   ·rename_i d hd;simp only [nZ,aaa] at h;obtain ⟨⟨⟨⟨⟨hCe,Az⟩,hbit⟩,Zl⟩,xD⟩,hT⟩:=h;have hCe:C=[]:=by simpa using hCe
    subst hCe;have Az:bX oj.op=true:=Az;have hd:oj.dst=some d:=hd;have yp:j∈aab .any ops listed:=rS hM hj (by simpa using hbit) Zl (qw hP hj);obtain ⟨ih,_⟩:=pF hA hP hF hK T n [] (listed.setIfInBounds j true) (L ||| 2 ^ j) (fun k hk=>by cases hk) (jm.add hA yp) (hM.add j);unfold tU at hs;rw [bg,aaB,hj] at hs;simp only at hs;obtain ⟨eJ,hs⟩:=hs;unfold Vm at eJ;split at eJ
    ·rename_i _ d' hg Hy;rw [hd] at Hy;cases Hy;rw [aaa] at eJ;have Vl:E.BQ f d=false:=by simpa using eJ.1
     have UH:cn E f ops.toList oj (fJ E f ops du [] K n (listed.setIfInBounds j true)) s:=cp hs fun s' h'=>ih hT s' h'
     unfold cn at UH;rw [hg] at UH;obtain ⟨s1,q1,q2⟩:=(HT Az).1 UH;refine Lw hA hK hj hg hd Az Vl n listed s s1 jm (fun i oi hi cQ Lu uq=>?_) yp q1 q2;have fT:=yn xD i _ (kI hi);rw [aaZ] at fT;simp only [aa4] at fT;have Vp:i < ops.size:=(aax.1 hi).1;rcases fT with ((h1|h1)|h1)|h1
     ·exact absurd (aaH h1) cQ
     ·rw [hM.DW Vp,h1] at Lu; cases Lu
     ·exact absurd (eQ.1 h1) uq
     ·rw [aaa] at h1;exact ⟨Bi h1.1,fun e he off=>yo eJ.2 e (eQ.1 (aac.1 h1.2 e he)) off⟩
    ·cases eJ
  ·cases h
 |.take j C' T,0,C,listed,L,hC,jm,hM=>⟨fun h=>by simp [lx] at h,fun m l e=>by cases e⟩
 |.take j C' T,n+1,C,listed,L,hC,jm,hM=>by
  refine ⟨fun h s hs=>?_,fun m l _ h=>by simp [lx] at h⟩;unfold lx at h;split at h
  ·rename_i x c hx hc;obtain ⟨oj,hj,rfl⟩:=tf hx;split at h
   ·cases h
   ·rename_i d hd;simp only [nZ,aaa] at h;obtain ⟨⟨⟨⟨⟨⟨⟨hN,DO⟩,hCd⟩,hcf⟩,hbit⟩,Zl⟩,oK⟩,Vq,hT⟩:=h;have hN:tT oj.op=true:=hN;have hd:oj.dst=some d:=hd;have yp:j∈aab .any ops listed:=rS hM hj (by simpa using hbit) Zl (qw hP hj);have X2:∀ {d:Nat} {l:List Nat},(!jU d l)=true→d∉l:=fun h hm=>by rw [eQ.2 hm] at h; cases h
    have Vr:d∉oj.looksAt ops:=X2 DO;have ac9:∀ k∈C,∀ ok,ops[k]?=some ok→d∉ok.looksAt ops∧ok.dst≠some d:=fun k hk ok eJ=>by
     have:=aac.1 hCd k hk;rw [gO eJ] at this;simp only [aaa] at this;refine ⟨X2 this.1,fun e=>?_⟩;have h2:=this.2;simp only [kG,e,sH] at h2;cases h2
    have O2:NC ops (j :: C):=fun k hk ok ho=>by
     rcases aaX.1 hk with rfl|hk
     ·rw [hj] at ho; cases ho; exact hN
     ·exact hC k hk ok ho
    have ada:=jm.add hA yp;obtain ⟨ih,_⟩:=pF hA hP hF hK T n C' (listed.setIfInBounds j true) (L ||| 2 ^ j) (Bj oK) ada (hM.add j);unfold tU at hs;rw [bg,aaB,hj] at hs;simp only at hs;have UH:cn E f ops.toList oj (fJ E f ops du (j :: C) K n (listed.setIfInBounds j true)) s:=cp hs fun s' h'=>nV n _ _ (vy (hM.add j) Vq) (ih hT s' h')
    obtain ⟨x,oJ,hk⟩:=yf hN (iw O2 hK _ _) UH;rw [hd] at hk;refine Gl hA hC hK hj hN hd Vr ac9 n listed s x jm (fun i oi hi cQ Lu uq=>?_) yp oJ hk;have xD:=ym hF j _ c (kI hj) (by rw [← bg]; exact hc) hN;have fT:=yl xD i _ (kI hi);rw [aaZ,aaZ] at fT;simp only [aa4] at fT;have Vp:i < ops.size:=(aax.1 hi).1;rcases fT with ((h1|h1)|h1)|h1
    ·exact absurd (aaH h1) cQ
    ·obtain ⟨e,q1,q2,q3⟩:=jf.1 (eQ.1 h1);exact absurd q3 (uq e (by simpa using q1) q2)
    ·have:=aac.1 hcf i (eQ.1 h1);rw [hM.DW Vp,this] at Lu;cases Lu
    ·exact Bi h1
  ·cases h
 |.br i re C' T more,0,C,listed,L,hC,jm,hM=>⟨fun h=>by simp [lx] at h,fun m l e=>by cases e⟩
 |.br i re C' T more,n+1,C,listed,L,hC,jm,hM=>by
  have main:∀ left l,(match left with | none=>nY L 0 (kH ops) | some l=>l)=l→lx (kH ops) (2 ^ ops.size - 1) du cf (.br i re C' T more) (n+1) C L left=true→∀ s,tU E f ops.toList (.br i re C' T more) K s→i∈l∧∀ k∈l,k∈aab .any ops listed→∀ ok,ops[k]?=some ok →
    cn E f ops.toList ok (fun s'=>Jq E f ops du C k s'∧fJ E f ops du C K n (listed.setIfInBounds k true) s') s:=by
   intro left l hl h s hs;unfold lx at h;split at h
   ·cases h
   ·rename_i y hy;obtain ⟨oi,te,rfl⟩:=tf hy;have h:(TP (kH ops) du C re i (kG ops oi)&&HY (kH ops) C'&&jU i l&&(wJ (kH ops) du (L ||| 2 ^ i) C C'&&lx (kH ops) (2 ^ ops.size - 1) du cf T n C' (L ||| 2 ^ i) none) &&
     lx (kH ops) (2 ^ ops.size - 1) du cf more (n+1) C L (some (l.filter fun k=>!aaM k i)))=true:=by
     cases left with
     |none=>simp only at hl; subst hl; simp only [yk,nZ] at h; exact h
     |some l'=>simp only at hl; subst hl; simp only [nZ] at h; exact h
    simp only [aaa] at h;obtain ⟨⟨⟨⟨YT,oK⟩,qT⟩,Vq,hT⟩,hmore⟩:=h;unfold tU at hs;refine ⟨eQ.1 qT,fun k hk hkr ok eJ=>?_⟩;by_cases e:k=i
    ·subst e;rw [te] at eJ;cases eJ;obtain ⟨ih,_⟩:=pF hA hP hF hK T n C' (listed.setIfInBounds k true) (L ||| 2 ^ k) (Bj oK) (jm.add hA hkr) (hM.add k);have h1:=hs.1;rw [bg,aaB,te] at h1;refine cp h1 fun s' h'=>⟨fun c hc oc TO q1 q2 q3 q4=>?_,nV n _ _ (vy (hM.add k) Vq) (ih hT s' h'.2)⟩
     rw [te] at q2;cases q2;have xQ:=aac.1 YT c hc;rw [gO q1] at xQ;have q3':qu (kG ops oc) (kG ops oi)=true:=q3;simp only [q3',Bool.not_true,Bool.false_or,aa4] at xQ;rcases xQ with xQ|xQ
     ·have hm:c∈re:=eQ.1 xQ;have:∀ (re:List Nat),c∈re→Bh E f ops.toList re s'→Ge E f ops.toList oc s':=by
       intro re
       induction re with
       |nil=>intro hm; simp at hm
       |cons a re ihr=>
        intro hm ha;rcases aaX.1 hm with rfl|hm
        ·have:=ha.1;rw [bg,aaB,q1] at this;exact this
        ·exact ihr hm ha.2
      exact this re hm h'.1
     ·exact absurd (eQ.1 xQ) q4
    ·obtain ⟨_,ih⟩:=pF hA hP hF hK more (n+1) C listed L hC jm hM;refine ih n _ rfl hmore s hs.2 k ?_ hkr ok eJ;rw [List.mem_filter];exact ⟨hk,by rw [nK e]; rfl⟩
  refine ⟨fun h s hs=>?_,fun m l e h s hs k hk hkr ok eJ=>?_⟩
  ·obtain ⟨m1,m2⟩:=main none _ rfl h s hs;have back:∀ k,k∈nY L 0 (kH ops)→k∈aab .any ops listed:=fun k hk=>by
    obtain ⟨j,x,q1,q2,q3,q4⟩:=pD.1 hk;rw [aaZ] at q1;subst q1;rw [← bg] at q2;obtain ⟨o,ho,rfl⟩:=tf q2;exact rS hM ho q3 q4 (qw hP ho)
   have Zm:∀ k,k∈aab .any ops listed→k∈nY L 0 (kH ops):=fun k hk=>by
    obtain ⟨h1,o,ho,oK⟩:=mem_ready.1 hk;have bZ:k < ops.size:=(aax.1 ho).1;refine pD.2 ⟨k,kG ops o,by omega,kI ho,by rw [← hM.DW bZ]; exact h1,aac.2 fun e he=>?_⟩;obtain ⟨ed,q1,q2,rfl⟩:=jf.1 he;have h2:=oK ed (by simpa using q1) q2;rw [hM.DW (qw hP ho ed (by simpa using q1) q2)] at h2;exact h2
   refine ⟨fun h0=>?_,fun k hk ok eJ=>m2 k (Zm k hk) hk ok eJ⟩;have:=back i m1;rw [h0] at this;simp at this
  ·cases e;exact (main (some l) l rfl h s hs).2 k hk hkr ok eJ
theorem yq {R:ak} {w:World} {β:Nat→Nat} {F:Fence} {Qc:Exit→Act→World→Prop} {C:List Nat} (hQ:∀ a' w',py E R w β s K a' w'→Qc .normal a' w') :
  ∀ (n:Nat) (listed:Array Bool) (R1:ak) (w1:World) (β1:Nat→Nat) (s1:St) (a1:Act),bl E R1 w1 β1 s1 a1→Step R w β s.boxes R1 w1 β1 s1.boxes→s1.ro=s.ro→bV R1 s1.ro F →
   fJ E f ops du C K n listed s1→wpAnyIn F 0 E.P .any ops Qc n listed a1 w1
 |0,listed,R1,w1,β1,s1,a1,hr,lu,b6,_,ha=>⟨ha.1,hQ _ _ ⟨s1,R1,β1,ha.2,hr,lu,b6⟩⟩
 |n+1,listed,R1,w1,β1,s1,a1,hr,lu,b6,hf,ha=>by
  refine ⟨fun h0=>hQ _ _ ⟨s1,R1,β1,ha.1 h0,hr,lu,b6⟩,fun i hi=>?_⟩;obtain ⟨_,o,ho,_⟩:=mem_ready.1 hi;unfold wpOpIn;simp only [ho];refine s6 hr hf (ha.2 i hi o ho) _ ?_;rintro a' w' ⟨s',R',β',q1,q2,q3,q4⟩;exact yq hQ n _ R' w' β' s' a' q2 (lu.trans q3) (q4.trans b6) (by rw [q4]; exact hf.mono q3.ext) q1.2
theorem fA {K':St→Prop} (hK:∀ s,K s→K' s):∀ (T:DT) (s:St),tU E f ops.toList T K s→tU E f ops.toList T K' s
 |.done,s,h=>hK s h
 |.stop,_,_=>trivial
 |.take j C T,s,h=>by
  unfold tU at h ⊢;split
  ·rename_i oj hj;rw [hj] at h;exact cp h fun s' h'=>fA hK T s' h'
  ·rename_i hj;rw [hj] at h;exact h
 |.al j W T,s,h=>by
  unfold tU at h ⊢;split
  ·rename_i oj hj;rw [hj] at h;exact ⟨h.1,cp h.2 fun s' h'=>fA hK T s' h'⟩
  ·rename_i hj;rw [hj] at h;exact h
 |.br i re C T more,s,h=>by
  unfold tU at h ⊢;refine ⟨?_,fA hK more s h.2⟩;have h:=h.1;split
  ·rename_i oj hj;rw [hj] at h;exact cp h fun s' h'=>⟨h'.1,fA hK T s' h'.2⟩
  ·rename_i hj;rw [hj] at h;exact h
structure af where
 du:List (List Nat)
 cf:List (List Nat)
 T:DT
def Gn (ops:Array Oper) (p:af):Bool:=HW (ops.toList.map (kG ops)) fun I=>
 Cf ops.size fun n=>Cf (2 ^ n - 1) fun N=>yj (Lx p.du) 0 I&&Vo n I&&DS I 0 I p.cf&&lx I N (Lx p.du) p.cf p.T n [] 0 none
theorem bl.drawn {R:ak} {w:World} {β:Nat→Nat} {a:Act} (h:bl E R w β s a):bl E R { w with drawn:=w.drawn+1 } β s a∧Step R w β s.boxes R { w with drawn:=w.drawn+1 } β s.boxes:=by
 have e:Ext R w R { w with drawn:=w.drawn+1 }:=⟨fun _ _ h=>h,fun _ _ _=>rfl,fun _ ro h=>⟨ro,h,cF.refl ro⟩,gE.refl w⟩;refine ⟨⟨⟨h.g.len,fun id go ro h1 h2=>(h.g.obj id go ro h1 h2).mono e (fun _ _=>rfl) (fun _ _ _ h=>h),h.g.inj,h.g.wf,fun g cs hg=>(h.g.ck g cs hg).mono e,Nat.le_succ_of_le h.g.lo⟩,?_,h.t.mono e,h.n,h.d⟩,?_⟩
 ·exact h.b.aW e (fun _ _ _=>rfl) (fun _ _ _ _ h=>h) (fun _ _ _ h=>h)
 ·exact ⟨e,rfl,rfl,rfl,Nat.le_refl _,fun _ _ _=>rfl,fun _ _ h=>h,fun _ _ h _ _=>h⟩
theorem fU.draw {id:Nat} {p:af} {Q:Exit→St→Prop} (eJ:Gn ops p=true) (h:tU E f ops.toList p.T (Q .normal) s):fU E (.region id ops true) Q s:=fun R w β a F hr hf=>by
 simp only [Gn,DU,nZ,aaa] at eJ;obtain ⟨⟨⟨hA,hP⟩,hF⟩,hT⟩:=eJ;refine wpIn_region_any E.mixed ?_;obtain ⟨q1,q2⟩:=hr.drawn;have hK:Inv (fun s=>∃ u,qp u s∧Q .normal u):=fun s t e ⟨u,h1,h2⟩=>⟨u,h1.trans e,h2⟩
 have h':=fA (K':=fun s=>∃ u,qp u s∧Q .normal u) (fun s h=>⟨s,qp.refl s,h⟩) p.T s h;have jm:nW (Lx p.du) (Array.replicate ops.size false):=fun i hi=>by
  rw [aa3,Array.getElem?_replicate] at hi;split at hi <;> cases hi
 have Vs:=(pF (E:=E) (f:=f) (Gm hA) hP hF hK p.T ops.size [] (Array.replicate ops.size false) 0 (fun k hk=>by simp at hk) jm ⟨by simp,fun i hi=>by simp [hi]⟩).1 hT s h';refine yq (R:=R) (w:=w) (β:=β) (s:=s) (f:=f) (K:=fun s=>∃ u,qp u s∧Q .normal u) ?_ _ _ R _ β s a q1 q2 rfl hf Vs;rintro a' w' ⟨s',R',β',⟨u,e,hu⟩,h2,h3,h4⟩;exact ⟨u,R',β',hu,h2.eqv e.symm,h3.eqv rfl e.symm.b,e.ro.trans h4⟩
end
end Go.Am
