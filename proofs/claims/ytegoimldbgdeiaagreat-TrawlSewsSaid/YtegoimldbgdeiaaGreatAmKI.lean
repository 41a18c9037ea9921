/- The abstract machine: what an operation may leave in slots and boxes; a new box commutes. -/
import Derived.Test.YtegoimldbgdeiaaGreatAmKH
set_option linter.all false
open Array renaming getElem?_eq_some_iff→aax, getElem?_toList→aaK, getD_eq_getD_getElem?→aaQ, setIfInBounds_comm→aaV
open Bool renaming and_eq_true→aal, or_eq_true→aaR, not_eq_true'→aaT, false_eq_true→aaU
open Go.Op renaming operands→aaM
open Go.Region renaming ready→aaq, binds→aaL
open List renaming cons_append→aao, nil_append→aap, all_eq_true→aas, mem_cons→aaN, append_cancel_right→aaS, mem_cons_of_mem→aaW
open Nat renaming eq_of_beq_eq_true→aav, beq→aaI, zero_add→aaO
namespace Go.Am
open Go
section
variable {E:Env} {s t:St} {o:Oper}
def jA (E:Env) (s:St) (o:Oper) (s':St):Prop:=
 (s'.ab=s.ab∨∃ d x,o.dst=some d∧(s'.ab=.put d x :: s.ab∨s'.ab=.put d x :: .kill d :: s.ab)∧∀ k off,x=.lp k off→(∃ y∈o.op.operands,∃ gR,bG E s.ab y=.lp k gR)∨(cA o.op=true∧k=d)) ∧
 (s'.boxes=s.boxes∨∃ k cs,s'.boxes=(k,cs) :: s.boxes∧((cA o.op=true∧o.dst=some k)∨∃ y∈o.op.operands,∃ off,bG E s.ab y=.lp k off))
theorem oe {s1:St} (h1:s1.ab=s.ab) (h2:s1.boxes=s.boxes) {x:SV} (hx:∀ k off,x=.lp k off→∃ y∈o.op.operands,∃ gR,bG E s.ab y=.lp k gR):jA E s o (s1.put o.dst x):=by
 refine ⟨?_,.inl (by rw [(iq s1 o.dst x).1,h2])⟩;cases hd:o.dst with
 |none=>exact .inl h1
 |some d=>
  simp only [St.put];split
  ·exact .inr ⟨d,x,rfl,.inl (by rw [h1]),fun k off h=>.inl (hx k off h)⟩
  ·exact .inl h1
theorem lS {s1:St} (h1:s1.ab=s.ab) (h2:s1.boxes=s.boxes) (a:AV):jA E s o (s1.put o.dst (.v a)):=oe h1 h2 fun k off h=>by cases h
theorem lh {s1:St} (h1:s1.ab=s.ab) (h2:s1.boxes=s.boxes):jA E s o s1:=⟨.inl h1,.inl h2⟩
theorem PV {k:Nat} {cs:List AV} (h:∃ y∈o.op.operands,∃ off,bG E s.ab y=.lp k off):jA E s o (s.xi k cs):=⟨.inl rfl,.inr ⟨k,cs,rfl,.inr h⟩⟩
theorem FB {n:Nat} {x:SV} {k off:Nat} (h:Cc n x=some (.lp k off)):∃ gR,x=.lp k gR:=by
 unfold Cc at h;split at h <;> cases h;exact ⟨_,rfl⟩
theorem B1 {ty:TypeId} {x:SV} {j k off:Nat} (h:mI E ty x j=some (.lp k off)):∃ gR,x=.lp k gR:=by
 unfold mI at h
 repeat' (split at h)
 all_goals (first|(cases h; done) | exact FB h)
theorem B2 {ty:TypeId} {x ix:SV} {c:Bool} {k off:Nat} (h:mH E ty x ix=some (c,.lp k off)):∃ gR,x=.lp k gR:=by
 unfold mH at h
 repeat' (split at h)
 all_goals (first|(cases h; done) | skip)
 rename_i hm;injection h with h; injection h with h1 h2; subst h2;exact FB hm
theorem HR {ty:TypeId} {p x:SV} {s':St} (hp:∀ k off,p=.lp k off→∃ y∈o.op.operands,∃ gR,bG E s.ab y=.lp k gR) (h:iQ E s ty p x=some s'):jA E s o s':=by
 unfold iQ at h
 repeat' (split at h)
 all_goals (first|(cases h; done) | skip)
 ·cases h; exact PV (hp _ _ rfl)
 ·cases h; exact lh rfl rfl
theorem HS {ty:TypeId} {p x:SV} {c:Bool} {s':St} (hp:∀ k off,p=.lp k off→∃ y∈o.op.operands,∃ gR,bG E s.ab y=.lp k gR) (h:fQ E s ty p x=some (c,s')):jA E s o s':=by
 unfold fQ at h
 repeat' (split at h)
 all_goals (first|(cases h; done) | skip)
 ·injection h with h; injection h with h1 h2; subst h2; exact lh rfl rfl
 ·injection h with h; injection h with h1 h2; subst h2; exact lh rfl rfl
 ·injection h with h; injection h with h1 h2; subst h2; exact lh rfl rfl
 ·injection h with h; injection h with h1 h2; subst h2; exact lh rfl rfl
 ·rename_i hs;injection h with h; injection h with h1 h2; subst h2; exact HR hp hs
theorem HT {ty:TypeId} {p x:SV} {c:Bool} {s':St} (hp:∀ k off,p=.lp k off→∃ y∈o.op.operands,∃ gR,bG E s.ab y=.lp k gR) (h:lD E s ty p x=some (c,s')):jA E s o s':=by
 unfold lD at h;split at h
 ·rename_i hs;injection h with h; injection h with e1 e2;subst e2;exact HS (s:=s.bq (tA s p x).2.2) hp hs
 ·cases h
theorem xI {ty:TypeId} {m k x:SV} {s':St} (h:gw E s ty m k x=some s'):jA E s o s':=by
 unfold gw at h
 repeat' (split at h)
 all_goals (first|(cases h; done) | skip)
 cases h; exact lh rfl rfl
theorem KW {x:SV} {s':St} (h:nY s o.dst x=some s'):jA E s o s':=by
 unfold nY at h;split at h
 ·split at h
  ·rename_i l pos hg;cases hb:Nat.blt pos l.length with
   |true=>
    rw [hb] at h;simp only [cond_true] at h;cases h;exact lS rfl rfl _
   |false=>
    rw [hb] at h;simp only [cond_false] at h;cases h;exact lS rfl rfl _
  ·cases h
 ·cases h
theorem DQ {b:Builtin} {l:List AV} {tys:List TypeId} {c:Bool} {s':St} (h:cu E s o.dst b l tys=some (c,s')):jA E s o s':=by
 unfold cu at h;cases b
 all_goals (try (cases h; done))
 all_goals (try simp only at h)
 all_goals (try (split at h <;> first | (cases h; done) | simp only at h))
 all_goals (repeat' (split at h))
 all_goals (first|(cases h; done) | skip)
 all_goals (injection h with h; injection h with h1 h2; subst h1 h2)
 all_goals (first|exact lS rfl rfl _ | exact lh rfl rfl)
theorem KX {f:FuncId} {c:Bool} {s':St} (h:iV E f s o=some (c,s')):jA E s o s':=by
 unfold iV at h
 repeat' (split at h)
 all_goals (first|(cases h; done) | skip)
 injection h with h; injection h with h2 h3;subst h3;exact lS rfl rfl _
theorem An {f:FuncId} {el:TypeId} {cs:List AV} {c:Bool} {s':St} (ha:cA o.op=true) (h:gv E f s o.dst el cs=some (c,s')):jA E s o s':=by
 unfold gv at h;split at h
 ·cases h
 ·rename_i d hd;split at h
  ·injection h with h; injection h with h1 h2; subst h2;rw [← hd];exact lS rfl rfl _
  ·split at h
   ·rename_i hb;injection h with h; injection h with h1 h2; subst h2;refine ⟨.inr ⟨d,.lp d 0,hd,.inr ?_,fun k off h=>by cases h; exact .inr ⟨ha,rfl⟩⟩,.inr ⟨d,cs,?_,.inl ⟨ha,hd⟩⟩⟩
    ·simp only [St.put,St.xi,St.kill,hb]
    ·rw [(iq _ (some d) (.lp d 0)).1]; rfl
   ·cases h
theorem HU {f:FuncId} {c:Bool} {s':St} (h:ao E f s o=some (c,s')):jA E s o s':=by
 cases ho:o.op
 case move x=>
  simp only [ao,ho] at h;split at h
  all_goals (injection h with h; injection h with h1 h2; subst h2)
  ·exact lS rfl rfl _
  ·rename_i k off hx;exact oe rfl rfl fun k' gR e=>by cases e; exact ⟨x,by rw [ho]; simp [aaM],_,hx⟩
  ·exact oe rfl rfl fun k' gR e=>by cases e
 case assign x=>
  simp only [ao,ho] at h;split at h
  all_goals (injection h with h; injection h with h1 h2; subst h2)
  ·exact lS rfl rfl _
  ·rename_i k off hx;exact oe rfl rfl fun k' gR e=>by cases e; exact ⟨x,by rw [ho]; simp [aaM],_,hx⟩
  ·exact oe rfl rfl fun k' gR e=>by cases e
 case nilCheck x=>
  simp only [ao,ho] at h;split at h
  ·injection h with h; injection h with h1 h2; subst h2;exact lS rfl rfl _
  ·injection h with h; injection h with h1 h2; subst h2;exact lS rfl rfl _
  ·rename_i k off hx;injection h with h; injection h with h1 h2; subst h2;exact oe rfl rfl fun k' gR e=>by cases e; exact ⟨x,by rw [ho]; simp [aaM],_,hx⟩
  ·cases h
 case fieldAddr a x j=>
  simp only [ao,ho] at h;split at h
  ·rename_i p hp;injection h with h; injection h with h1 h2; subst h2;exact oe rfl rfl fun k' gR e=>by subst e; exact ⟨x,by rw [ho]; simp [aaM],B1 hp⟩
  ·cases h
 case indexAddr a x y=>
  simp only [ao,ho] at h;split at h
  ·rename_i c' p hp;injection h with h; injection h with h1 h2; subst h2;exact oe rfl rfl fun k' gR e=>by subst e; exact ⟨x,by rw [ho]; simp [aaM],B2 hp⟩
  ·cases h
 case alloc e=>
  simp only [ao,ho] at h
  repeat' (split at h)
  all_goals (first|(cases h; done) | skip)
  exact An (by rw [ho]; rfl) h
 case box e x=>
  simp only [ao,ho] at h
  repeat' (split at h)
  all_goals (first|(cases h; done) | skip)
  exact An (by rw [ho]; rfl) h
 case store ty x y=>
  simp only [ao,ho] at h;split at h
  ·rename_i hs;injection h with h; injection h with h1 h2; subst h2;exact HT (fun k off e=>⟨x,by rw [ho]; simp [aaM],off,e⟩) hs
  ·cases h
 case mapUpdate ty x y z=>
  simp only [ao,ho] at h;split at h
  ·rename_i hs;injection h with h; injection h with h1 h2; subst h2;exact xI hs
  ·cases h
 case insert ty x y z=>
  simp only [ao,ho] at h;split at h
  ·rename_i hs;injection h with h; injection h with h1 h2; subst h2;exact xI hs
  ·cases h
 case mapEntry ty x y=>
  simp only [ao,ho] at h;split at h
  ·rename_i hs;injection h with h; injection h with h1 h2; subst h2;unfold iC at hs
   repeat' (split at hs)
   all_goals (first|(cases hs; done) | skip)
   injection hs with hs; injection hs with h3 hs; injection hs with h4 h5;subst h5;exact lS rfl rfl _
  ·cases h
 case entryStore ty x y z=>
  simp only [ao,ho] at h;split at h
  ·rename_i hs;injection h with h; injection h with h1 h2; subst h2;unfold fy at hs
   repeat' (split at hs)
   all_goals (first|(cases hs; done) | skip)
   injection hs with hs; injection hs with h3 h4;subst h4;exact lh rfl rfl
  ·cases h
 case next x b=>
  cases b with
  |false=>simp [ao,ho] at h
  |true=>
   simp only [ao,ho] at h;split at h
   ·rename_i hs;injection h with h; injection h with h1 h2; subst h2;exact KW hs
   ·cases h
 case call cl=>
  obtain ⟨callee,args,tys⟩:=cl;cases callee with
  |builtin b=>
   simp only [ao,ho] at h;split at h
   ·rename_i r hf;cases h;exact KX hf
   ·split at h
    ·exact DQ h
    ·cases h
  |_=>simp [ao,ho] at h
 case makeFunc fo a b=>
  cases fo with
  |func g=>
   simp only [ao,ho] at h
   repeat' (split at h)
   all_goals (first|(cases h; done) | skip)
   injection h with h; injection h with h1 h2; subst h2;exact lS rfl rfl _
  |_=>simp [ao,ho] at h
 case makeMap ty r=>
  cases r with
  |none=>
   simp only [ao,ho] at h;injection h with h; injection h with h1 h2; subst h2;exact lS rfl rfl _
  |some _=>simp [ao,ho] at h
 all_goals (first
  |(simp [ao,ho] at h; done)
  |(simp only [ao,pR,ho] at h; (repeat' (split at h)); (all_goals (first|(cases h; done) | skip)); (all_goals (injection h with h; injection h with h1 h2; subst h2)); (all_goals (exact lS rfl rfl _))))
def tS (s:St) (d:Nat) (cs:List AV):St:=s.gG [.put d (.lp d 0),.kill d] [(d,cs)] s.G
theorem HV {f:FuncId} {d:Tmp} {c:Bool} {s1:St} (KV:cA o.op=true) (hd:o.dst=some d) (hg:E.zg f d=false) (h:ao E f s o=some (c,s1)) :
  c=true∧∃ cs,s1=tS s d cs∧∀ t:St,t.n=s.n→(∀ y∈o.op.operands,∀ v,bG E s.ab y=.v v→bG E t.ab y=.v v)→ao E f t o=some (true,tS t d cs):=by
 have key:∀ (el:TypeId) (cs:List AV),gv E f s o.dst el cs=some (c,s1)→c=true∧s1=tS s d cs∧∀ t:St,t.n=s.n→gv E f t o.dst el cs=some (true,tS t d cs):=by
  intro el cs h;unfold gv at h;rw [hd] at h;simp only [hg,aaU,if_false] at h;split at h
  ·rename_i hb;injection h with h; injection h with h1 h2; subst h1 h2;refine ⟨rfl,?_,fun t ht=>?_⟩
   ·simp only [St.put,St.xi,St.kill,hb,tS,St.gG]; rfl
   ·unfold gv;rw [hd];simp only [hg,aaU,if_false,ht,hb];simp only [St.put,St.xi,St.kill,ht,hb,tS,St.gG]; rfl
  ·cases h
 cases ho:o.op
 case alloc e=>
  simp only [ao,ho] at h ⊢;split at h
  ·split at h
   ·split at h
    ·rename_i hi _ _ hz Kr;obtain ⟨k1,k2,k3⟩:=key _ _ h;refine ⟨k1,_,k2,fun t ht _=>?_⟩;simp only [hi,hz,Kr,if_true];exact k3 t ht
    ·cases h
   ·cases h
  ·cases h
 case box e x=>
  simp only [ao,ho] at h ⊢;split at h
  ·split at h
   ·rename_i v hv Kr;obtain ⟨k1,k2,k3⟩:=key _ _ h;refine ⟨k1,_,k2,fun t ht he=>?_⟩;simp only [he x (by simp [aaM]) v hv,Kr,if_true];exact k3 t ht
   ·cases h
  ·cases h
 all_goals (rw [ho] at KV; simp [cA] at KV)
theorem Jk {pre:bo} {preB:cX} {G:List GO} (h:jA E s o (s.gG pre preB G)) :
  (pre=[]∨∃ d x,o.dst=some d∧(pre=[.put d x]∨pre=[.put d x,.kill d])∧∀ k off,x=.lp k off→(∃ y∈o.op.operands,∃ gR,bG E s.ab y=.lp k gR)∨(cA o.op=true∧k=d)) ∧
  (preB=[]∨∃ k cs,preB=[(k,cs)]∧((cA o.op=true∧o.dst=some k)∨∃ y∈o.op.operands,∃ off,bG E s.ab y=.lp k off)):=by
 obtain ⟨h1,h2⟩:=h;refine ⟨?_,?_⟩
 ·rcases h1 with h1|⟨d,x,hd,h1,hx⟩
  ·exact .inl (by simpa [St.gG] using h1)
  ·refine .inr ⟨d,x,hd,?_,hx⟩;rcases h1 with h1|h1
   ·left;have h1:pre++s.ab=[.put d x]++s.ab:=h1;exact aaS h1
   ·right;have h1:pre++s.ab=[.put d x,.kill d]++s.ab:=h1;exact aaS h1
 ·rcases h2 with h2|⟨k,cs,h2,hx⟩
  ·exact .inl (by simpa [St.gG] using h2)
  ·refine .inr ⟨k,cs,?_,hx⟩;have h2:preB++s.boxes=[(k,cs)]++s.boxes:=h2;exact aaS h2
theorem li (d e:Nat) (l:bo):lk (.kill d :: l) e=(match lk l e with | .lp k off=>bif aaI k d then .none else .lp k off | x=>x):=rfl
theorem Ao {d e:Nat} {l:bo} (h:∀ off,lk l e≠.lp d off):lk (.kill d :: l) e=lk l e:=by
 rw [li];split
 ·rename_i k off hk;cases hb:aaI k d with
  |true=>exact absurd (by rw [hk,aav hb]) (h off)
  |false=>rw [hk]; rfl
 ·rfl
theorem KY {d:Nat} {pre:bo} {preB:cX} {G:List GO} (cs:List AV) (PW:jA E s o (s.gG pre preB G)) (cq:o.dst≠some d) (KZ:∀ y∈o.op.operands,∀ off,bG E s.ab y≠.lp d off) :
  sr ((tS s d cs).gG pre preB G) (tS (s.gG pre preB G) d cs):=by
 obtain ⟨h1,h2⟩:=Jk PW;refine ⟨funext fun e=>?_,funext fun k=>?_,rfl,rfl,rfl,rfl⟩
 ·show lk (pre++([.put d (.lp d 0),.kill d]++s.ab)) e=lk ([.put d (.lp d 0),.kill d]++(pre++s.ab)) e;rcases h1 with rfl|⟨d',x,hd,hp,hx⟩
  ·rfl
  ·have hdd:d'≠d:=fun c=>cq (by rw [hd,c])
   have yg:∀ off,x≠.lp d off:=fun off c=>by
    rcases hx d off c with ⟨y,hy,gR,ho⟩|⟨_,h⟩
    ·exact KZ y hy gR ho
    ·exact hdd h.symm
   by_cases c1:d=e
   ·subst c1;rcases hp with rfl|rfl
    ·simp only [aao,aap];rw [aT hdd,aD,aD]
    ·simp only [aao,aap];rw [aT hdd,aD,Ao (fun off=>by rw [aD]; intro c; cases c; exact hdd rfl),aD]
   ·simp only [aao,aap];rw [aT c1];by_cases c2:d'=e
    ·subst c2;rcases hp with rfl|rfl
     ·simp only [aao,aap];rw [aD,Ao (fun off=>by rw [aD]; exact yg off),aD]
     ·simp only [aao,aap];rw [aD,Ao (fun off=>by rw [aD]; exact yg off),aD]
    ·rcases hp with rfl|rfl
     ·simp only [aao,aap];rw [aT c2,aT c1,li,li,aT c2]
     ·simp only [aao,aap];rw [aT c2,li,aT c1,li,li,aT c2,li];cases lk s.ab e with
      |lp k off=>cases hb:aaI k d <;> cases Jj:aaI k d' <;> simp [hb,Jj]
      |_=>rfl
 ·show dR (preB++([(d,cs)]++s.boxes)) k=dR ([(d,cs)]++(preB++s.boxes)) k;rcases h2 with rfl|⟨k',eZ,rfl,hk⟩
  ·rfl
  ·have O1:k'≠d:=fun c=>by
    subst c;rcases hk with ⟨_,hk⟩|⟨y,hy,off,ho⟩
    ·exact cq hk
    ·exact KZ y hy off ho
   simp only [aao,aap,dR];cases hb:aaI k' k with
   |true=>
    have:aaI d k=false:=by
     cases Jj:aaI d k with
     |true=>exact absurd ((aav hb).trans (aav Jj).symm) O1
     |false=>rfl
    rw [this]; rfl
   |false=>rfl
end
section
variable {E:Env} {s t:St} {f:FuncId} {o:Oper} {K K':St→Prop}
theorem HW (hn:s.n=t.n) (hG:s.G=t.G) (hB:∀ k off,(∃ y∈o.op.operands,bG E s.ab y=.lp k off)→dR s.boxes k=dR t.boxes k) (fB:∀ y∈o.op.operands,bG E s.ab y=bG E t.ab y) (h:ml E f o K s)
  (hK:∀ pre preB G,jA E t o (t.gG pre preB G)→K (s.gG pre preB G)→K' (t.gG pre preB G)):ml E f o K' t:=by
 unfold ml at h ⊢;split at h
 ·rename_i x args tys ho;have h1:bG E s.ab x=bG E t.ab x:=fB x (by rw [ho]; simp [aaM,Call.operands]);have h2:nL E s.ab args.toList=nL E t.ab args.toList:=iH fun y hy=>fB y (by rw [ho]; simp [aaM,Call.operands]; exact .inr (by simpa using hy))
  try simp only [ho]
  rw [← h1,← h2,← hG];split at h
  ·refine cZ.mono h fun r G' hk=>?_
   obtain ⟨pre,preB,G,p1,p2,p3,p4⟩:=cn.ee (s:=s) (t:=t) (al:=cA o.op) hn G' o.dst (.v r);rw [p3] at hk;have hO:jA E t o ((t.bq G').put o.dst (.v r)):=lS rfl rfl _;rw [p4] at hO ⊢;exact hK pre preB G hO hk
  ·refine mR.mono h fun r G' hk=>?_
   obtain ⟨pre,preB,G,p1,p2,p3,p4⟩:=cn.ee (s:=s) (t:=t) (al:=cA o.op) hn G' o.dst (.v (.bool r));rw [p3] at hk;have hO:jA E t o ((t.bq G').put o.dst (.v (.bool r))):=lS rfl rfl _;rw [p4] at hO ⊢;exact hK pre preB G hO hk
  ·exact h.elim
 ·exact h.elim
 ·split at h
  ·rename_i c s' hs;obtain ⟨t',h1,pre,preB,G,p1,p2,p3,p4⟩:=uX hn hG hB fB hs;have hO:=HU h1;rw [h1];obtain ⟨rfl,hk⟩:=h.out;refine eO.mk rfl ?_;rw [p3] at hk;rw [p4] at hO ⊢;exact hK pre preB G hO hk
  ·exact h.elim
theorem Jl (ha:cA o.op=true):ml E f o K s↔∃ s',ao E f s o=some (true,s')∧K s':=by
 unfold ml;split
 ·rename_i h;rw [h] at ha;simp [cA] at ha
 ·rename_i h;rw [h] at ha;simp [cA] at ha
 ·split
  ·rename_i c s' hs;constructor
   ·intro h;obtain ⟨rfl,hk⟩:=h.out;exact ⟨s',hs,hk⟩
   ·rintro ⟨DF,h1,h2⟩;rw [hs] at h1;cases h1;exact eO.mk rfl h2
  ·rename_i hs;constructor
   ·exact fun h=>h.elim
   ·rintro ⟨DF,h1,_⟩;rw [hs] at h1;cases h1
end
end Go.Am
namespace Go.Am
open Go
section
variable {E:Env} {s t:St} {f:FuncId} {ops:Array Oper} {o oj oi:Oper} {d:Tmp} {x:SV} {K K':St→Prop} {eH:Nat→List Nat} {C:List Nat}
def K0 (E:Env) (f:FuncId) (ops:Array Oper) (eH:Nat→List Nat) (C:List Nat) (i:Nat) (s:St):Prop:=
 ∀ j∈C,∀ oj oi,ops[j]?=some oj→ops[i]?=some oi→lg oj oi=true→j∉eH i→HQ E f ops.toList oj s
def NC (ops:Array Oper) (C:List Nat):Prop:=∀ j∈C,∀ oj,ops[j]?=some oj→vU oj.op=true
theorem ss {i:Nat} (hC:NC ops C):Inv (K0 E f ops eH C i):=fun _ _ e h j hj oj oi h1 h2 h3 h4=>PT (hC j hj oj h1) e (h j hj oj oi h1 h2 h3 h4)
def gX (E:Env) (f:FuncId) (ops:Array Oper) (eH:Nat→List Nat) (C:List Nat) (K:St→Prop):Nat→Array Bool→St→Prop
 |0,listed,s=>aaq .any ops listed=[]∧K s
 |n+1,listed,s=>(aaq .any ops listed=[]→K s) ∧
   ∀ i∈aaq .any ops listed,∀ oi,ops[i]?=some oi→cK E f ops.toList oi (fun s'=>K0 E f ops eH C i s'∧gX E f ops eH C K n (listed.setIfInBounds i true) s') s
theorem jB (hC:NC ops C) (hK:Inv K):∀ n listed,Inv (gX E f ops eH C K n listed)
 |0,_=>fun s t e h=>⟨h.1,hK s t e h.2⟩
 |n+1,_=>fun s t e h=>⟨fun h0=>hK s t e (h.1 h0),fun i hi oi uZ=>Fx (fun s t e h=>⟨ss hC s t e h.1,jB hC hK n _ s t e h.2⟩) s t e (h.2 i hi oi uZ)⟩
theorem qe {C':List Nat}:∀ n (listed:Array Bool) (s:St),
  (∀ k∈C',k∈C∨∀ i ok oi,ops[k]?=some ok→ops[i]?=some oi→listed.getD i true=false→lg ok oi=true→k∈eH i) →
  gX E f ops eH C K n listed s→gX E f ops eH C' K n listed s
 |0,_,_,_,h=>h
 |n+1,listed,s,hk,h=>⟨h.1,fun i hi oi uZ=>cL (h.2 i hi oi uZ) fun s' h'=>⟨fun k UG ok SK h1 h2 h3 h4=>by
   rcases hk k UG with h5|h5
   ·exact h'.1 k h5 ok SK h1 h2 h3 h4
   ·exact absurd (h5 i ok SK h1 h2 (mem_ready.1 hi).1 h3) h4,qe n _ s' (fun k UG=>by
   rcases hk k UG with h5|h5
   ·exact .inl h5
   ·refine .inr fun i' ok SK h1 h2 h3 h4=>h5 i' ok SK h1 h2 ?_ h4
    by_cases e:i=i'
    ·subst e; exact (mem_ready.1 hi).1
    ·rw [getD_set_ne true e] at h3; exact h3) h'.2⟩⟩
def CH (ops:Array Oper) (eH:Nat→List Nat):Prop:=∀ i oi a,ops[i]?=some oi→a∈eH i→∃ e∈oi.after,aaL .any e=true∧(e.on=a∨a∈eH e.on)
def qf (eH:Nat→List Nat) (listed:Array Bool):Prop:=∀ i,listed.getD i false=true→∀ a∈eH i,listed.getD a false=true
theorem qf.ready {listed:Array Bool} (h:qf eH listed) (ha:CH ops eH) {i:Nat} (hi:i∈aaq .any ops listed):∀ a∈eH i,listed.getD a false=true:=fun a haa=>by
 obtain ⟨_,o,ho,va⟩:=mem_ready.1 hi;obtain ⟨e,he,hb,h2⟩:=ha i o a ho haa;rcases h2 with rfl|h2
 ·exact va e he hb
 ·exact h _ (va e he hb) a h2
theorem lJ {listed:Array Bool} {i:Nat} (h:listed.getD i false=true):listed.getD i true=true:=by
 rw [aaQ] at *;cases hl:listed[i]? with
 |none=>rw [hl] at h; cases h
 |some b=>rw [hl] at h; exact h
theorem qf.add {listed:Array Bool} (h:qf eH listed) (ha:CH ops eH) {i:Nat} (hi:i∈aaq .any ops listed):qf eH (listed.setIfInBounds i true):=fun k hk a haa=>by
 by_cases e:i=k
 ·subst e;exact getD_set_true (h.ready ha hi a haa)
 ·rw [getD_set_ne false e] at hk;exact getD_set_true (h k hk a haa)
theorem HX (hA:CH ops eH) (hC:NC ops C) (hK:Inv K) {j:Nat} (hj:ops[j]?=some oj) (hN:vU oj.op=true) (Ji:oj.dst=some d) (Fz:d∉oj.looksAt ops)
  (hCd:∀ k∈C,∀ ok,ops[k]?=some ok→d∉ok.looksAt ops∧ok.dst≠some d):∀ n (listed:Array Bool) (s:St) (x:SV),qf eH listed →
   (∀ i oi,ops[i]?=some oi→i≠j→listed.getD i true=false→(∀ e∈oi.after,aaL .any e=true→e.on≠j)→oj.apart ops oi=true) →
   j∈aaq .any ops listed→Aj E f ops oj s x→gX E f ops eH (j :: C) K n (listed.setIfInBounds j true) (s.put (some d) x)→gX E f ops eH C K (n+1) listed s:=by
 have Pa:NC ops (j :: C):=fun k hk ok ho=>by
  rcases aaN.1 hk with rfl|hk
  ·rw [hj] at ho; cases ho; exact hN
  ·exact hC k hk ok ho
 have self:∀ n (listed:Array Bool) (s:St) (x:SV),Aj E f ops oj s x→gX E f ops eH (j :: C) K n (listed.setIfInBounds j true) (s.put (some d) x)→∀ oi,ops[j]?=some oi →
   cK E f ops.toList oi (fun s'=>K0 E f ops eH C j s'∧gX E f ops eH C K n (listed.setIfInBounds j true) s') s:=fun n listed s x hx h oi uZ=>by
  rw [hj] at uZ;cases uZ;refine Al hN (fun s t e h=>⟨ss hC s t e h.1,jB hC hK _ _ s t e h.2⟩) hx ?_;rw [Ji];refine ⟨fun k _ ok SK _ h2 h3 _=>?_,qe n _ _ (fun k hk=>.inl (aaW _ hk)) h⟩;rw [hj] at h2;cases h2;simp [lg,Fv hN,hN] at h3
 intro n
 induction n with
 |zero=>
  intro listed s x _ _ hr hx h;refine ⟨fun h0=>by rw [h0] at hr; simp at hr,fun i hi oi uZ=>?_⟩;by_cases e:i=j
  ·subst e; exact self 0 listed s x hx h oi uZ
  ·have:=ready_mono hi e;rw [h.1] at this;simp at this
 |succ n ih=>
  intro listed s x iz mN hr hx h;refine ⟨fun h0=>by rw [h0] at hr; simp at hr,fun i hi oi uZ=>?_⟩;by_cases e:i=j
  ·subst e; exact self (n+1) listed s x hx h oi uZ
  ·have M6:=(mem_ready.1 hi).1;have PX:=(mem_ready.1 hr).1;have T1:∀ ed∈oi.after,aaL .any ed=true→ed.on≠j:=fun ed he hb jS=>by
    obtain ⟨_,o,ho,va⟩:=mem_ready.1 hi;rw [uZ] at ho;cases ho;have h1:=lJ (va ed he hb);rw [jS,PX] at h1;cases h1
   have O5:=mN i oi uZ e M6 T1;have hG:=h.2 i (ready_mono hi e) oi uZ;have M7:j∉eH i:=fun hm=>by
    have h1:=lJ (iz.ready hA hi j hm);rw [PX] at h1;cases h1
   have hKi:Inv (fun s'=>K0 E f ops eH (j :: C) i s'∧gX E f ops eH (j :: C) K n ((listed.setIfInBounds j true).setIfInBounds i true) s'):=
    fun s t e h=>⟨ss Pa s t e h.1,jB Pa hK _ _ s t e h.2⟩
   have UH:∀ k ok,ops[k]?=some ok→k≠j→(listed.setIfInBounds i true).getD k true=false→(∀ e∈ok.after,aaL .any e=true→e.on≠j)→oj.apart ops ok=true:=fun k ok hk hkj YO rq=>by
    refine mN k ok hk hkj ?_ rq;by_cases e':i=k
    ·subst e'; exact M6
    ·rw [getD_set_ne true e'] at YO; exact YO
   have core:∀ {pre:bo} {preB:cX} {G:List GO},XF (cA oi.op) oi.dst pre→(vU oi.op=true→preB=[]∧G=s.G) →
     (K0 E f ops eH (j :: C) i ((s.put (some d) x).gG pre preB G)∧gX E f ops eH (j :: C) K n ((listed.setIfInBounds j true).setIfInBounds i true) ((s.put (some d) x).gG pre preB G)) →
     K0 E f ops eH C i (s.gG pre preB G)∧gX E f ops eH C K (n+1) (listed.setIfInBounds i true) (s.gG pre preB G):=by
    intro pre preB G FA YN hk;obtain ⟨x',yg,iZ⟩:=KU hN Ji Fz O5 hKi hx FA YN hk (fun t' mC hd=>mC.1 j (List.mem_cons_self ..) oj oi hj uZ hd M7);refine ⟨fun k UG ok SK h1 h2 h3 h4=>?_,?_⟩
    ·obtain ⟨q1,q2⟩:=hCd k UG ok h1;obtain ⟨b1,b2,b3,_⟩:=iq (s.gG pre preB G) (some d) x';exact PS (hC k UG ok h1) q1 q2 (fun e he=>yQ _ _ _ he) (by rw [b1]) b2 b3 (iZ.1 k (aaW _ UG) ok SK h1 h2 h3 h4)
    ·refine ih (listed.setIfInBounds i true) _ x' (iz.add hA hi) UH (ready_mono hr (Ne.symm e)) yg ?_;rw [aaV _ _ e];exact iZ.2
   rw [il (fun s t e h=>⟨ss hC s t e h.1,jB hC hK _ _ s t e h.2⟩)];obtain ⟨Kz,_,_⟩:=Oper.apart_spec O5;have xq:∀ e∈oi.looksAt ops,lk (s.put (some d) x).ab e=lk s.ab e:=fun e he=>yQ s d x fun k=>Kz d Ji (k ▸ he)
   obtain ⟨b1,b2,b3,b4,b5⟩:=iq s (some d) x;rcases (il hKi).1 hG with ⟨h1,h2⟩|⟨h1,h2⟩
   ·refine .inl ⟨by rw [← mF xq]; exact h1,wJ b3 b2 (by rw [b1]) (mS xq) h2 fun pre preB G hp YN hk=>core hp (fun hh=>?_) hk⟩;obtain ⟨q1,q2⟩:=YN hh;exact ⟨q1,by rw [q2,b2]⟩
   ·refine .inr ⟨by rw [← mF xq]; exact h1,?_⟩;obtain ⟨pre,preB,G,p1,p2,p3,p4⟩:=cn.put (s:=s.put (some d) x) (t:=s) (al:=cA oi.op) (w:=false) b3 b2 oi.dst (.v hZ);obtain ⟨q1,q2,_⟩:=p2 rfl;rw [p3] at h2;rw [p4];exact core p1 (fun _=>⟨q1,by rw [q2,b2]⟩) h2
theorem Jm {i:Nat} {s:St}:K0 E f ops eH [] i s:=fun j hj=>by cases hj
theorem UI {y:Operand} {k off:Nat} (h:bG E s.ab y=.lp k off):∃ e,y=.tmp e∧lk s.ab e=.lp k off:=by
 cases y with
 |tmp e=>exact ⟨e,rfl,h⟩
 |const v=>simp only [bG] at h; split at h <;> cases h
 |global g=>simp only [bG] at h; split at h <;> cases h
 |func g=>cases h
theorem M8 (hA:CH ops eH) (hK:Inv K) {j:Nat} (hj:ops[j]?=some oj) (hg:oj.guard=none) (Ji:oj.dst=some d) (KV:cA oj.op=true) (UJ:E.zg f d=false):∀ n (listed:Array Bool) (s s1:St),qf eH listed →
  (∀ i oi,ops[i]?=some oi→i≠j→listed.getD i true=false→j∉eH i→oj.apart ops oi=true∧∀ e∈oi.looksAt ops,∀ off,lk s.ab e≠.lp d off) →
  j∈aaq .any ops listed→ao E f s oj=some (true,s1)→gX E f ops eH [] K n (listed.setIfInBounds j true) s1→gX E f ops eH [] K (n+1) listed s:=by
 have Pa:NC ops []:=fun k hk=>by cases hk
 have self:∀ n (listed:Array Bool) (s s1:St),ao E f s oj=some (true,s1)→gX E f ops eH [] K n (listed.setIfInBounds j true) s1→∀ oi,ops[j]?=some oi →
   cK E f ops.toList oi (fun s'=>K0 E f ops eH [] j s'∧gX E f ops eH [] K n (listed.setIfInBounds j true) s') s:=fun n listed s s1 hx h oi uZ=>by
  rw [hj] at uZ;cases uZ;unfold cK;rw [hg];exact (Jl KV).2 ⟨s1,hx,Jm,h⟩
 intro n
 induction n with
 |zero=>
  intro listed s s1 _ _ hr hx h;refine ⟨fun h0=>by rw [h0] at hr; simp at hr,fun i hi oi uZ=>?_⟩;by_cases e:i=j
  ·subst e; exact self 0 listed s s1 hx h oi uZ
  ·have:=ready_mono hi e;rw [h.1] at this;simp at this
 |succ n ih=>
  intro listed s s1 iz mN hr hx h;refine ⟨fun h0=>by rw [h0] at hr; simp at hr,fun i hi oi uZ=>?_⟩;by_cases e:i=j
  ·subst e; exact self (n+1) listed s s1 hx h oi uZ
  ·have M6:=(mem_ready.1 hi).1;have PX:=(mem_ready.1 hr).1;have M7:j∉eH i:=fun hm=>by
    have h1:=lJ (iz.ready hA hi j hm);rw [PX] at h1;cases h1
   obtain ⟨O5,rq⟩:=mN i oi uZ e M6 M7;obtain ⟨Kz,cq,uG⟩:=Oper.apart_spec O5;have E1:oi.dst≠some d:=cq d Ji;obtain ⟨_,cs,rfl,Jb⟩:=HV KV Ji UJ hx;have hG:=h.2 i (ready_mono hi e) oi uZ;have hKi:Inv (fun s'=>K0 E f ops eH [] i s'∧gX E f ops eH [] K n ((listed.setIfInBounds j true).setIfInBounds i true) s'):=
    fun s t e h=>⟨ss Pa s t e h.1,jB Pa hK _ _ s t e h.2⟩
   have KZ:∀ y∈oi.op.operands,∀ off,bG E s.ab y≠.lp d off:=fun y hy off hv=>by
    obtain ⟨e',rfl,hv⟩:=UI hv;exact rq e' (qd hy) off hv
   have core:∀ {pre:bo} {preB:cX} {G:List GO},jA E s oi (s.gG pre preB G) →
     (K0 E f ops eH [] i ((tS s d cs).gG pre preB G)∧gX E f ops eH [] K n ((listed.setIfInBounds j true).setIfInBounds i true) ((tS s d cs).gG pre preB G)) →
     K0 E f ops eH [] i (s.gG pre preB G)∧gX E f ops eH [] K (n+1) (listed.setIfInBounds i true) (s.gG pre preB G):=by
    intro pre preB G PW hk;refine ⟨Jm,?_⟩;obtain ⟨o1,o2⟩:=Jk PW;have xq:∀ e' off,oi.dst≠some e'∨lk (s.gG pre preB G).ab e'=.lp d off→lk (s.gG pre preB G).ab e'=.lp d off→lk s.ab e'=.lp d off:=by
     intro e' off _ hv;have hv:lk (pre++s.ab) e'=.lp d off:=hv;rcases o1 with rfl|⟨d',x,I0,hp,PY⟩
     ·exact hv
     ·have yg:∀ off,x≠.lp d off:=fun off c=>by
       rcases PY d off c with ⟨y,hy,gR,ho⟩|⟨_,h⟩
       ·exact KZ y hy gR ho
       ·exact E1 (by rw [I0,h])
      by_cases c2:d'=e'
      ·subst c2;rcases hp with rfl|rfl
       ·simp only [aao,aap,aD] at hv; exact absurd hv (yg off)
       ·simp only [aao,aap,aD] at hv; exact absurd hv (yg off)
      ·rcases hp with rfl|rfl
       ·simp only [aao,aap] at hv; rwa [aT c2] at hv
       ·simp only [aao,aap] at hv;rw [aT c2,li] at hv;cases hl:lk s.ab e' with
        |lp k gR=>
         rw [hl] at hv;simp only at hv;cases hb:aaI k d' with
         |true=>rw [hb] at hv; cases hv
         |false=>rw [hb] at hv; exact hv
        |v a=>rw [hl] at hv; cases hv
        |none=>rw [hl] at hv; cases hv
    refine ih (listed.setIfInBounds i true) _ _ (iz.add hA hi) ?_ (ready_mono hr (Ne.symm e)) (Jb (s.gG pre preB G) rfl ?_) ?_
    ·intro k ok iZ hkj YO ace;have acf:listed.getD k true=false:=by
      by_cases e':i=k
      ·subst e'; exact M6
      ·rw [getD_set_ne true e'] at YO; exact YO
     obtain ⟨q1,q2⟩:=mN k ok iZ hkj acf ace;exact ⟨q1,fun e' GI off hv=>q2 e' GI off (xq e' off (.inr hv) hv)⟩
    ·intro y hy v hv;cases y with
     |tmp e'=>
      have I0:oi.dst≠some e':=fun c=>uG e' c (qd hy)
      have hv:lk s.ab e'=.v v:=hv;show lk (pre++s.ab) e'=.v v;rcases o1 with rfl|⟨d',x,Uw,hp,_⟩
      ·exact hv
      ·have c2:d'≠e':=fun c=>I0 (by rw [Uw,c])
       rcases hp with rfl|rfl
       ·simp only [aao,aap]; rw [aT c2]; exact hv
       ·simp only [aao,aap];rw [aT c2,Ao (fun off=>by rw [hv]; intro c; cases c)]; exact hv
     |const _=>exact hv
     |global _=>exact hv
     |func _=>exact hv
    ·rw [aaV _ _ e];exact jB Pa hK _ _ _ _ (KY cs PW E1 KZ) hk.2
   have DR:∀ e'∈oi.looksAt ops,lk (tS s d cs).ab e'=lk s.ab e':=fun e' GI=>by
    have c1:d≠e':=fun c=>Kz d Ji (c ▸ GI)
    show lk (.put d (.lp d 0) :: .kill d :: s.ab) e'=_;rw [aT c1,Ao (rq e' GI)]
   have zD:∀ k off,(∃ y∈oi.op.operands,bG E (tS s d cs).ab y=.lp k off)→dR (tS s d cs).boxes k=dR s.boxes k:=by
    rintro k off ⟨y,hy,hv⟩;rw [mS DR y hy] at hv;have O1:d≠k:=fun c=>KZ y hy off (by rw [c]; exact hv)
    show dR ((d,cs) :: s.boxes) k=dR s.boxes k;simp only [dR];cases hb:aaI d k with
    |true=>exact absurd (aav hb) O1
    |false=>rfl
   rw [il (fun s t e h=>⟨ss Pa s t e h.1,jB Pa hK _ _ s t e h.2⟩)];rcases (il hKi).1 hG with ⟨h1,h2⟩|⟨h1,h2⟩
   ·exact .inl ⟨by rw [← mF DR]; exact h1,HW (s:=tS s d cs) (t:=s) rfl rfl zD (mS DR) h2 fun pre preB G hO hk=>core hO hk⟩
   ·refine .inr ⟨by rw [← mF DR]; exact h1,?_⟩;obtain ⟨pre,preB,G,p1,p2,p3,p4⟩:=cn.put (s:=tS s d cs) (t:=s) (al:=cA oi.op) (w:=false) rfl rfl oi.dst (.v hZ);rw [p3] at h2;have hO:jA E s oi (s.put oi.dst (.v hZ)):=lS rfl rfl _;rw [p4] at hO ⊢;exact core hO h2
end
inductive DT where
 |done
 |take (j:Nat) (C:List Nat) (t:DT)
 |br (i:Nat) (re C:List Nat) (t:DT) (more:DT)
 |stop
 |al (j:Nat) (W:List Nat) (t:DT)
structure qg where
 dst:Option Tmp
 lo:List Tmp
 pr:List Nat
 n:Bool
 r:Bool
 a:Bool
def Jn (d:Nat) (s:bo):List Nat→Bool
 |[]=>true
 |e :: l=>(match lk s e with
  |.lp k _=>!aaI k d
  |_=>true)&&Jn d s l
def UK (E:Env) (f:FuncId) (o:Oper) (W:List Nat) (s:St):Bool:=match o.guard,o.dst with
 |none,some d=>!E.zg f d&&Jn d s.ab W
 |_,_=>false
def lK (x:Nat):List Nat→Bool
 |[]=>false
 |y :: l=>aaI x y || lK x l
def su:List Edge→List Nat
 |[]=>[]
 |e :: l=>bif aaL .any e then e.on :: su l else su l
def mT (ops:Array Oper) (o:Oper):qg:=⟨o.dst,o.looksAt ops,su o.after.toList,vU o.op,UE o.op,cA o.op⟩
def DS {α:Type} (n:Nat) (K:Nat→α):α:=match n with
 |0=>K 0
 |m+1=>K (Nat.succ m)
def CI {α:Type}:List Nat→(List Nat→α)→α
 |[],K=>K []
 |a :: l,K=>DS a fun a=>CI l fun l=>K (a :: l)
def UL {α:Type} (i:qg) (K:qg→α):α:=match i with
 |⟨d,lo,pr,n,r,a⟩=>CI lo fun lo=>CI pr fun pr=>(match d with
  |none=>(fun (K:Option Tmp→α)=>K none)
  |some d=>(fun (K:Option Tmp→α)=>DS d fun d=>K (some d))) fun d=>(bif n then (fun (K:Bool→α)=>K true) else fun K=>K false) fun n=>
   (bif r then (fun (K:Bool→α)=>K true) else fun K=>K false) fun r=>(bif a then (fun (K:Bool→α)=>K true) else fun K=>K false) fun a=>K ⟨d,lo,pr,n,r,a⟩
def Jo {α:Type}:List qg→(List qg→α)→α
 |[],K=>K []
 |i :: l,K=>UL i fun i=>Jo l fun l=>K (i :: l)
def wL (x y:qg):Bool:=
 (match x.dst with
 |some d=>!lK d y.lo&&(match y.dst with | some e=>!aaI e d | none=>true)
 |none=>true) &&
 (match y.dst with
 |some d=>!lK d x.lo
 |none=>true)
def FC (j:Nat) (x:qg) (cf:List Nat):Nat→List qg→Bool
 |_,[]=>true
 |i,y :: l=>(aaI i j || lK j y.pr || lK i cf || wL x y)&&FC j x cf (i+1) l
def FD (I:List qg):Nat→List qg→List (List Nat)→Bool
 |_,[],_=>true
 |j,x :: l,c :: cs=>(!x.n || FC j x c 0 I)&&FD I (j+1) l cs
 |_,_,_=>false
def Ap (eH:Nat→List Nat):Nat→List qg→Bool
 |_,[]=>true
 |i,x :: l=>(eH i).all (fun a=>x.pr.any fun e=>aaI e a || lK a (eH e))&&Ap eH (i+1) l
def qh (L:Nat):Nat→List qg→List Nat
 |_,[]=>[]
 |i,x :: l=>bif !L.testBit i&&x.pr.all (fun e=>L.testBit e) then i :: qh L (i+1) l else qh L (i+1) l
def sw (x y:qg):Bool:=y.a || (x.r&&!y.n)
def sx (eH:Nat→List Nat) (L k:Nat) (x:qg):Nat→List qg→Bool
 |_,[]=>true
 |i,y :: l=>(L.testBit i || !sw x y || lK k (eH i))&&sx eH L k x (i+1) l
def yR (I:List qg) (eH:Nat→List Nat) (L:Nat) (C C':List Nat):Bool:=C.all fun k=>lK k C' || match nth I k with
 |none=>false
 |some x=>sx eH L k x 0 I
def SL (I:List qg) (eH:Nat→List Nat) (C re:List Nat) (i:Nat) (y:qg):Bool:=C.all fun k=>lK k re || match nth I k with
 |none=>false
 |some x=>!sw x y || lK k (eH i)
def Jp (eH:Nat→List Nat) (L:Nat) (W:List Nat) (j:Nat) (x:qg):Nat→List qg→Bool
 |_,[]=>true
 |i,y :: l=>(aaI i j || L.testBit i || lK j (eH i) || (wL x y&&y.lo.all fun e=>lK e W))&&Jp eH L W j x (i+1) l
def Jq (I:List qg) (C:List Nat):Bool:=C.all fun k=>match nth I k with
 |some x=>x.n
 |none=>false
def nP (I:List qg) (N:Nat) (eH:Nat→List Nat) (cf:List (List Nat)):DT→Nat→List Nat→Nat→Option (List Nat)→Bool
 |.done,_,_,L,none=>aaI L N
 |.take j C' t,n+1,C,L,none=>match nth I j,nth cf j with
  |some x,some c=>match x.dst with
   |none=>false
   |some d=>x.n&&!lK d x.lo&&(C.all fun k=>match nth I k with
     |none=>false
     |some y=>!lK d y.lo&&(match y.dst with | some e=>!aaI e d | none=>true)) &&
    c.all (fun i=>L.testBit i)&&!L.testBit j&&x.pr.all (fun e=>L.testBit e)&&Jq I C' &&
    DS (L ||| 2 ^ j) fun L'=>yR I eH L' (j :: C) C'&&nP I N eH cf t n C' L' none
  |_,_=>false
 |.br i re C' t more,n+1,C,L,left=>match nth I i with
  |none=>false
  |some y=>(match left with
   |none=>fun (K:List Nat→Bool)=>CI (qh L 0 I) K
   |some l=>fun K=>K l) fun l=>
    SL I eH C re i y&&Jq I C'&&lK i l&&(DS (L ||| 2 ^ i) fun L'=>yR I eH L' C C'&&nP I N eH cf t n C' L' none) &&
     nP I N eH cf more (n+1) C L (some (l.filter fun k=>!aaI k i))
 |.stop,_,_,_,some l=>l.isEmpty
 |.al j W t,n+1,C,L,none=>match nth I j with
  |some x=>match x.dst with
   |none=>false
   |some _=>C.isEmpty&&x.a&&!L.testBit j&&x.pr.all (fun e=>L.testBit e)&&Jp eH L W j x 0 I&&DS (L ||| 2 ^ j) fun L'=>nP I N eH cf t n [] L' none
  |none=>false
 |_,_,_,_,_=>false
def CJ (E:Env) (f:FuncId) (ops:List Oper):List Nat→St→Prop
 |[],_=>True
 |k :: l,s=>(match nth ops k with
  |some ok=>HQ E f ops ok s
  |none=>True)∧CJ E f ops l s
def vV (E:Env) (f:FuncId) (ops:List Oper):DT→(St→Prop)→St→Prop
 |.done,K,s=>K s
 |.take j _ t,K,s=>match nth ops j with
  |some oj=>cK E f ops oj (vV E f ops t K) s
  |none=>False
 |.br i re _ t more,K,s=>(match nth ops i with
  |some oi=>cK E f ops oi (fun s'=>CJ E f ops re s'∧vV E f ops t K s') s
  |none=>False)∧vV E f ops more K s
 |.stop,_,_=>True
 |.al j W t,K,s=>match nth ops j with
  |some oj=>UK E f oj W s=true∧cK E f ops oj (vV E f ops t K) s
  |none=>False
def M9 (l:List (List Nat)) (i:Nat):List Nat:=match nth l i with
 |some a=>a
 |none=>[]
section
variable {E:Env} {s t:St} {f:FuncId} {ops:Array Oper} {K:St→Prop} {eH:Nat→List Nat}
theorem fU {x:Nat}:∀ {l:List Nat},lK x l=true↔x∈l
 |[]=>by simp [lK]
 |y :: l=>by simp [lK,fU (l:=l)]
theorem qi {α:Type} (n:Nat) (K:Nat→α):DS n K=K n:=by cases n <;> rfl
theorem Aq {α:Type}:∀ (l:List Nat) (K:List Nat→α),CI l K=K l
 |[],_=>rfl
 |a :: l,K=>by simp only [CI,qi]; rw [Aq]
theorem PZ {α:Type} (i:qg) (K:qg→α):UL i K=K i:=by
 obtain ⟨d,lo,pr,n,r,a⟩:=i;cases d <;> cases n <;> cases r <;> cases a <;> simp [UL,Aq,qi]
theorem FE {α:Type}:∀ (l:List qg) (K:List qg→α),Jo l K=K l
 |[],_=>rfl
 |a :: l,K=>by simp only [Jo,PZ]; rw [FE]
def mU (ops:Array Oper):List qg:=ops.toList.map (mT ops)
theorem vb {k:Nat} {x:qg} (h:nth (mU ops) k=some x):∃ o,ops[k]?=some o∧x=mT ops o:=by
 rw [aN,mU,List.getElem?_map,aaK] at h;cases ho:ops[k]? with
 |none=>rw [ho] at h; cases h
 |some o=>rw [ho] at h; exact ⟨o,rfl,by simpa using h.symm⟩
theorem kG {e:Nat}:∀ {l:List Edge},e∈su l↔∃ ed∈l,aaL .any ed=true∧ed.on=e
 |[]=>by simp [su]
 |x :: l=>by
  unfold su;cases hb:aaL .any x with
  |true=>
   simp only [cond_true,aaN,kG (l:=l),exists_eq_or_imp,hb,true_and];constructor
   ·rintro (h|h)
    ·exact .inl h.symm
    ·exact .inr h
   ·rintro (h|h)
    ·exact .inl h.symm
    ·exact .inr h
  |false=>simp only [cond_false,aaN,kG (l:=l),exists_eq_or_imp,hb,false_and,false_or,aaU]
theorem CK {x y:Oper} (h:wL (mT ops x) (mT ops y)=true):x.apart ops y=true:=by
 have hm:∀ (d:Nat) (l:List Nat),lK d l=false→l.contains d=false:=fun d l h=>by
  cases hc:l.contains d with
  |false=>rfl
  |true=>rw [fU.2 (by simpa using hc)] at h; cases h
 unfold wL at h;unfold Oper.apart;simp only [mT,aal] at h ⊢;refine ⟨?_,?_⟩
 ·cases hx:x.dst with
  |none=>rfl
  |some d=>
   rw [hx] at h;simp only [aal,aaT] at h ⊢;refine ⟨hm _ _ h.1.1,?_⟩;have h2:=h.1.2;cases hy:y.dst with
   |none=>rfl
   |some e=>
    rw [hy] at h2;simp only [aaT] at h2;have:e≠d:=fun k=>by rw [k,uv] at h2; cases h2
    simpa using this
 ·cases hy:y.dst with
  |none=>rfl
  |some d=>
   rw [hy] at h;simp only [aaT] at h ⊢;exact hm _ _ h.2
def FF (ops:Array Oper) (L:Nat) (listed:Array Bool):Prop:=listed.size=ops.size∧∀ i,i < ops.size→listed[i]?=some (L.testBit i)
theorem FF.add {L:Nat} {listed:Array Bool} (h:FF ops L listed) (j:Nat):FF ops (L ||| 2 ^ j) (listed.setIfInBounds j true):=by
 refine ⟨by simp [h.1],fun i hi=>?_⟩;rw [Nat.testBit_or,Nat.testBit_two_pow];by_cases e:j=i
 ·subst e;rw [Array.getElem?_setIfInBounds_self_of_lt (by rw [h.1]; exact hi)];simp
 ·rw [Array.getElem?_setIfInBounds_ne e,h.2 i hi];simp [e]
theorem FF.FH {L:Nat} {listed:Array Bool} (h:FF ops L listed) {i:Nat} (hi:i < ops.size) (b:Bool):listed.getD i b=L.testBit i:=by
 rw [aaQ,h.2 i hi]; rfl
theorem tT {L:Nat} {listed:Array Bool} (h:FF ops L listed) {j:Nat} {o:Oper} (ho:ops[j]?=some o) (h1:L.testBit j=false) (h2:((mT ops o).pr.all fun e=>L.testBit e)=true)
  (bW:∀ e∈o.after,aaL .any e=true→e.on < ops.size):j∈aaq .any ops listed:=by
 have hj:j < ops.size:=(aax.1 ho).1;refine mem_ready.2 ⟨by rw [h.FH hj]; exact h1,o,ho,fun e he hb=>?_⟩;rw [h.FH (bW e he hb)];exact aas.1 h2 e.on (kG.2 ⟨e,by simpa using he,hb,rfl⟩)
def UM (n:Nat) (I:List qg):Bool:=I.all fun x=>x.pr.all fun e=>Nat.blt e n
theorem jb {k:Nat} {o:Oper} (h:ops[k]?=some o):nth (mU ops) k=some (mT ops o):=by
 rw [aN,mU,List.getElem?_map,aaK,h]; rfl
theorem mV {k:Nat} {o:Oper} (h:ops[k]?=some o):(mU ops)[k]?=some (mT ops o):=by
 rw [← aN]; exact jb h
theorem sy (h:UM ops.size (mU ops)=true) {k:Nat} {o:Oper} (ho:ops[k]?=some o):∀ e∈o.after,aaL .any e=true→e.on < ops.size:=fun e he hb=>by
 have h1:=aas.1 h (mT ops o) (List.mem_of_getElem? (mV ho));have h2:=aas.1 h1 e.on (kG.2 ⟨e,by simpa using he,hb,rfl⟩);exact Nat.le_of_ble_eq_true h2
theorem Ar {j:Nat} {x:qg} {c:List Nat}:∀ {l:List qg} {i:Nat},FC j x c i l=true→∀ k y,l[k]?=some y→(aaI (i+k) j || lK j y.pr || lK (i+k) c || wL x y)=true
 |[],_,_,k,y,hk=>by simp at hk
 |z :: l,i,h,k,y,hk=>by
  unfold FC at h;rw [aal] at h;cases k with
  |zero=>simp at hk; subst hk; exact h.1
  |succ k=>
   have:=Ar h.2 k y (by simpa using hk);rw [show i+1+k=i+(k+1) by omega] at this;exact this
theorem As {I:List qg}:∀ {l:List qg} {j:Nat} {cs:List (List Nat)},FD I j l cs=true→∀ k x c,l[k]?=some x→cs[k]?=some c→x.n=true→FC (j+k) x c 0 I=true
 |[],_,_,_,k,x,c,hk,_,_=>by simp at hk
 |z :: l,j,[],_,k,x,c,_,hc,_=>by simp at hc
 |z :: l,j,d :: cs,h,k,x,c,hk,hc,hn=>by
  unfold FD at h;rw [aal] at h;cases k with
  |zero=>
   simp at hk hc;subst hk hc;have:=h.1;rw [hn] at this;simpa using this
  |succ k=>
   have:=As h.2 k x c (by simpa using hk) (by simpa using hc) hn;rw [show j+1+k=j+(k+1) by omega] at this;exact this
theorem xJ:∀ {l:List qg} {i:Nat},Ap eH i l=true→∀ k x,l[k]?=some x→∀ a∈eH (i+k),∃ e∈x.pr,e=a∨a∈eH e
 |[],_,_,k,x,hk=>by simp at hk
 |z :: l,i,h,k,x,hk=>by
  unfold Ap at h;rw [aal] at h;cases k with
  |zero=>
   simp at hk;subst hk;intro a ha;have h1:=aas.1 h.1 a ha;obtain ⟨e,he,h2⟩:=List.any_eq_true.1 h1;rw [aaR] at h2;refine ⟨e,he,?_⟩;rcases h2 with h2|h2
   ·exact .inl (aav h2)
   ·exact .inr (fU.1 h2)
  |succ k=>
   have:=xJ h.2 k x (by simpa using hk);rw [show i+1+k=i+(k+1) by omega] at this;exact this
theorem HY (h:Ap eH 0 (mU ops)=true):CH ops eH:=fun i oi a hi ha=>by
 have h1:=xJ h i _ (mV hi) a (by rw [aaO]; exact ha);obtain ⟨e,he,h2⟩:=h1;obtain ⟨ed,q1,q2,rfl⟩:=kG.1 he;exact ⟨ed,by simpa using q1,q2,h2⟩
theorem rH {L:Nat}:∀ {l:List qg} {i k:Nat},k∈qh L i l↔∃ j x,k=i+j∧l[j]?=some x∧L.testBit k=false∧(x.pr.all fun e=>L.testBit e)=true
 |[],i,k=>by simp [qh]
 |z :: l,i,k=>by
  have ih:=rH (L:=L) (l:=l) (i:=i+1) (k:=k);have rest:(∃ j x,k=i+1+j∧l[j]?=some x∧L.testBit k=false∧(x.pr.all fun e=>L.testBit e)=true)↔∃ j x,k=i+(j+1)∧(z :: l)[j+1]?=some x∧L.testBit k=false∧(x.pr.all fun e=>L.testBit e)=true:=by
   constructor
   ·rintro ⟨j,x,h1,h2⟩; exact ⟨j,x,by omega,by simpa using h2⟩
   ·rintro ⟨j,x,h1,h2⟩; exact ⟨j,x,by omega,by simpa using h2⟩
  unfold qh;cases hc:(!L.testBit i&&z.pr.all fun e=>L.testBit e) with
  |true=>
   simp only [cond_true,aaN,ih,rest];rw [aal,aaT] at hc;constructor
   ·rintro (rfl|⟨j,x,h⟩)
    ·exact ⟨0,z,rfl,rfl,hc⟩
    ·exact ⟨j+1,x,h⟩
   ·rintro ⟨j,x,h1,h2⟩;cases j with
    |zero=>exact .inl h1
    |succ j=>exact .inr ⟨j,x,h1,h2⟩
  |false=>
   simp only [cond_false,ih,rest];constructor
   ·rintro ⟨j,x,h⟩; exact ⟨j+1,x,h⟩
   ·rintro ⟨j,x,h1,h2,h3,h4⟩;cases j with
    |zero=>
     simp at h2 h1;subst h1 h2;rw [h3,h4] at hc;cases hc
    |succ j=>exact ⟨j,x,h1,h2,h3,h4⟩
theorem rI {L k:Nat} {x:qg}:∀ {l:List qg} {i:Nat},sx eH L k x i l=true→∀ j y,l[j]?=some y→L.testBit (i+j)=false→sw x y=true→k∈eH (i+j)
 |[],_,_,j,y,hj=>by simp at hj
 |z :: l,i,h,j,y,hj=>by
  unfold sx at h;rw [aal] at h;cases j with
  |zero=>
   simp at hj;subst hj;intro h1 h2;have h3:=h.1;rw [Nat.add_zero] at h1;rw [h1,h2] at h3;exact fU.1 (by simpa using h3)
  |succ j=>
   have:=rI h.2 j y (by simpa using hj);rw [show i+1+j=i+(j+1) by omega] at this;exact this
theorem xK {L:Nat} {listed:Array Bool} (hM:FF ops L listed) {C C':List Nat} (h:yR (mU ops) eH L C C'=true):∀ k∈C,k∈C'∨∀ i ok oi,ops[k]?=some ok→ops[i]?=some oi→listed.getD i true=false→lg ok oi=true→k∈eH i:=fun k hk=>by
 have h1:=aas.1 h k hk;rw [aaR] at h1;rcases h1 with h1|h1
 ·exact .inl (fU.1 h1)
 ·refine .inr fun i ok oi q1 q2 q3 q4=>?_
  rw [jb q1] at h1;have hi:i < ops.size:=(aax.1 q2).1;have:=rI h1 i _ (mV q2) (by rw [aaO,← hM.FH hi]; exact q3) q4;rw [aaO] at this;exact this
theorem CL {C:List Nat} (h:Jq (mU ops) C=true):NC ops C:=fun k hk ok dG=>by
 have:=aas.1 h k hk;rw [jb dG] at this;exact this
theorem Au {L j:Nat} {x:qg} {W:List Nat}:∀ {l:List qg} {i:Nat},Jp eH L W j x i l=true→∀ k y,l[k]?=some y→(aaI (i+k) j || L.testBit (i+k) || lK j (eH (i+k)) || (wL x y&&y.lo.all fun e=>lK e W))=true
 |[],_,_,k,y,hk=>by simp at hk
 |z :: l,i,h,k,y,hk=>by
  unfold Jp at h;rw [aal] at h;cases k with
  |zero=>simp at hk; subst hk; exact h.1
  |succ k=>
   have:=Au h.2 k y (by simpa using hk);rw [show i+1+k=i+(k+1) by omega] at this;exact this
theorem Av {d:Nat} {s:bo}:∀ {l:List Nat},Jn d s l=true→∀ e∈l,∀ off,lk s e≠.lp d off
 |[],_,e,he,_=>by cases he
 |a :: l,h,e,he,off=>by
  unfold Jn at h;rw [aal] at h;rcases aaN.1 he with rfl|he
  ·intro hv;have h1:=h.1;rw [hv] at h1;simp only [uv] at h1;cases h1
  ·exact Av h.2 e he off
theorem rJ {cf:List (List Nat)} (hA:CH ops eH) (hP:UM ops.size (mU ops)=true) (hF:FD (mU ops) 0 (mU ops) cf=true) (hK:Inv K):∀ (T:DT) (n:Nat) (C:List Nat) (listed:Array Bool) (L:Nat),NC ops C→qf eH listed→FF ops L listed →
  (nP (mU ops) (2 ^ ops.size - 1) eH cf T n C L none=true→∀ s,vV E f ops.toList T K s→gX E f ops eH C K n listed s) ∧
  (∀ m l,n=m+1→nP (mU ops) (2 ^ ops.size - 1) eH cf T n C L (some l)=true→∀ s,vV E f ops.toList T K s→∀ i∈l,i∈aaq .any ops listed→∀ oi,ops[i]?=some oi →
   cK E f ops.toList oi (fun s'=>K0 E f ops eH C i s'∧gX E f ops eH C K m (listed.setIfInBounds i true) s') s)
 |.done,n,C,listed,L,hC,iz,hM=>by
  refine ⟨fun h s hs=>?_,fun m l _ h=>by simp [nP] at h⟩;have hL:L=2 ^ ops.size - 1:=aav (by simpa only [nP] using h);have hr:aaq .any ops listed=[]:=by
   apply List.eq_nil_iff_forall_not_mem.2;intro j hj;obtain ⟨h1,o,ho,_⟩:=mem_ready.1 hj;have bW:j < ops.size:=(aax.1 ho).1;rw [hM.FH bW,hL,Nat.testBit_two_pow_sub_one] at h1;simp [bW] at h1
  cases n with
  |zero=>exact ⟨hr,hs⟩
  |succ n=>exact ⟨fun _=>hs,fun i hi=>by rw [hr] at hi; simp at hi⟩
 |.stop,n,C,listed,L,hC,iz,hM=>by
  refine ⟨fun h=>by cases n <;> simp [nP] at h,fun m l e h s _ i hi=>?_⟩;subst e;have:l=[]:=by simpa [nP] using h
  rw [this] at hi;simp at hi
 |.al j W T,0,C,listed,L,hC,iz,hM=>⟨fun h=>by simp [nP] at h,fun m l e=>by cases e⟩
 |.al j W T,n+1,C,listed,L,hC,iz,hM=>by
  refine ⟨fun h s hs=>?_,fun m l _ h=>by simp [nP] at h⟩;unfold nP at h;split at h
  ·rename_i x hx;obtain ⟨oj,hj,rfl⟩:=vb hx;split at h
   ·cases h
   ·rename_i d hd;simp only [qi,aal] at h;obtain ⟨⟨⟨⟨⟨hCe,KV⟩,hbit⟩,P0⟩,kz⟩,hT⟩:=h;have hCe:C=[]:=by simpa using hCe
    subst hCe;have KV:cA oj.op=true:=KV;have hd:oj.dst=some d:=hd;have Aw:j∈aaq .any ops listed:=tT hM hj (by simpa using hbit) P0 (sy hP hj);obtain ⟨ih,_⟩:=rJ hA hP hF hK T n [] (listed.setIfInBounds j true) (L ||| 2 ^ j) (fun k hk=>by cases hk) (iz.add hA Aw) (hM.add j);unfold vV at hs;rw [aN,aaK,hj] at hs;simp only at hs;obtain ⟨dG,hs⟩:=hs;unfold UK at dG;split at dG
    ·rename_i _ d' hg I0;rw [hd] at I0;cases I0;rw [aal] at dG;have UJ:E.zg f d=false:=by simpa using dG.1
     have Pu:cK E f ops.toList oj (gX E f ops eH [] K n (listed.setIfInBounds j true)) s:=cL hs fun s' h'=>ih hT s' h'
     unfold cK at Pu;rw [hg] at Pu;obtain ⟨s1,q1,q2⟩:=(Jl KV).1 Pu;refine M8 hA hK hj hg hd KV UJ n listed s s1 iz (fun i oi hi cq M6 rq=>?_) Aw q1 q2;have j8:=Au kz i _ (mV hi);rw [aaO] at j8;simp only [aaR] at j8;have UN:i < ops.size:=(aax.1 hi).1;rcases j8 with ((h1|h1)|h1)|h1
     ·exact absurd (aav h1) cq
     ·rw [hM.FH UN,h1] at M6; cases M6
     ·exact absurd (fU.1 h1) rq
     ·rw [aal] at h1;exact ⟨CK h1.1,fun e he off=>Av dG.2 e (fU.1 (aas.1 h1.2 e he)) off⟩
    ·cases dG
  ·cases h
 |.take j C' T,0,C,listed,L,hC,iz,hM=>⟨fun h=>by simp [nP] at h,fun m l e=>by cases e⟩
 |.take j C' T,n+1,C,listed,L,hC,iz,hM=>by
  refine ⟨fun h s hs=>?_,fun m l _ h=>by simp [nP] at h⟩;unfold nP at h;split at h
  ·rename_i x c hx hc;obtain ⟨oj,hj,rfl⟩:=vb hx;split at h
   ·cases h
   ·rename_i d hd;simp only [qi,aal] at h;obtain ⟨⟨⟨⟨⟨⟨⟨hN,Fz⟩,hCd⟩,hcf⟩,hbit⟩,P0⟩,va⟩,UO,hT⟩:=h;have hN:vU oj.op=true:=hN;have hd:oj.dst=some d:=hd;have Aw:j∈aaq .any ops listed:=tT hM hj (by simpa using hbit) P0 (sy hP hj);have O4:∀ {d:Nat} {l:List Nat},(!lK d l)=true→d∉l:=fun h hm=>by rw [fU.2 hm] at h; cases h
    have UP:d∉oj.looksAt ops:=O4 Fz;have ach:∀ k∈C,∀ ok,ops[k]?=some ok→d∉ok.looksAt ops∧ok.dst≠some d:=fun k hk ok dG=>by
     have:=aas.1 hCd k hk;rw [jb dG] at this;simp only [aal] at this;refine ⟨O4 this.1,fun e=>?_⟩;have h2:=this.2;simp only [mT,e,uv] at h2;cases h2
    have Pa:NC ops (j :: C):=fun k hk ok ho=>by
     rcases aaN.1 hk with rfl|hk
     ·rw [hj] at ho; cases ho; exact hN
     ·exact hC k hk ok ho
    have aci:=iz.add hA Aw;obtain ⟨ih,_⟩:=rJ hA hP hF hK T n C' (listed.setIfInBounds j true) (L ||| 2 ^ j) (CL va) aci (hM.add j);unfold vV at hs;rw [aN,aaK,hj] at hs;simp only at hs;have Pu:cK E f ops.toList oj (gX E f ops eH (j :: C) K n (listed.setIfInBounds j true)) s:=cL hs fun s' h'=>qe n _ _ (xK (hM.add j) UO) (ih hT s' h')
    obtain ⟨x,yg,hk⟩:=Ak hN (jB Pa hK _ _) Pu;rw [hd] at hk;refine HX hA hC hK hj hN hd UP ach n listed s x iz (fun i oi hi cq M6 rq=>?_) Aw yg hk;have kz:=As hF j _ c (mV hj) (by rw [← aN]; exact hc) hN;have j8:=Ar kz i _ (mV hi);rw [aaO,aaO] at j8;simp only [aaR] at j8;have UN:i < ops.size:=(aax.1 hi).1;rcases j8 with ((h1|h1)|h1)|h1
    ·exact absurd (aav h1) cq
    ·obtain ⟨e,q1,q2,q3⟩:=kG.1 (fU.1 h1);exact absurd q3 (rq e (by simpa using q1) q2)
    ·have:=aas.1 hcf i (fU.1 h1);rw [hM.FH UN,this] at M6;cases M6
    ·exact CK h1
  ·cases h
 |.br i re C' T more,0,C,listed,L,hC,iz,hM=>⟨fun h=>by simp [nP] at h,fun m l e=>by cases e⟩
 |.br i re C' T more,n+1,C,listed,L,hC,iz,hM=>by
  have main:∀ left l,(match left with | none=>qh L 0 (mU ops) | some l=>l)=l→nP (mU ops) (2 ^ ops.size - 1) eH cf (.br i re C' T more) (n+1) C L left=true→∀ s,vV E f ops.toList (.br i re C' T more) K s→i∈l∧∀ k∈l,k∈aaq .any ops listed→∀ ok,ops[k]?=some ok →
    cK E f ops.toList ok (fun s'=>K0 E f ops eH C k s'∧gX E f ops eH C K n (listed.setIfInBounds k true) s') s:=by
   intro left l hl h s hs;unfold nP at h;split at h
   ·cases h
   ·rename_i y hy;obtain ⟨oi,uZ,rfl⟩:=vb hy;have h:(SL (mU ops) eH C re i (mT ops oi)&&Jq (mU ops) C'&&lK i l&&(yR (mU ops) eH (L ||| 2 ^ i) C C'&&nP (mU ops) (2 ^ ops.size - 1) eH cf T n C' (L ||| 2 ^ i) none) &&
     nP (mU ops) (2 ^ ops.size - 1) eH cf more (n+1) C L (some (l.filter fun k=>!aaI k i)))=true:=by
     cases left with
     |none=>simp only at hl; subst hl; simp only [Aq,qi] at h; exact h
     |some l'=>simp only at hl; subst hl; simp only [qi] at h; exact h
    simp only [aal] at h;obtain ⟨⟨⟨⟨Uh,va⟩,gk⟩,UO,hT⟩,hmore⟩:=h;unfold vV at hs;refine ⟨fU.1 gk,fun k hk hkr ok dG=>?_⟩;by_cases e:k=i
    ·subst e;rw [uZ] at dG;cases dG;obtain ⟨ih,_⟩:=rJ hA hP hF hK T n C' (listed.setIfInBounds k true) (L ||| 2 ^ k) (CL va) (iz.add hA hkr) (hM.add k);have h1:=hs.1;rw [aN,aaK,uZ] at h1;refine cL h1 fun s' h'=>⟨fun c hc oc SK q1 q2 q3 q4=>?_,qe n _ _ (xK (hM.add k) UO) (ih hT s' h'.2)⟩
     rw [uZ] at q2;cases q2;have GH:=aas.1 Uh c hc;rw [jb q1] at GH;have q3':sw (mT ops oc) (mT ops oi)=true:=q3;simp only [q3',Bool.not_true,Bool.false_or,aaR] at GH;rcases GH with GH|GH
     ·have hm:c∈re:=fU.1 GH;have:∀ (re:List Nat),c∈re→CJ E f ops.toList re s'→HQ E f ops.toList oc s':=by
       intro re
       induction re with
       |nil=>intro hm; simp at hm
       |cons a re ihr=>
        intro hm ha;rcases aaN.1 hm with rfl|hm
        ·have:=ha.1;rw [aN,aaK,q1] at this;exact this
        ·exact ihr hm ha.2
      exact this re hm h'.1
     ·exact absurd (fU.1 GH) q4
    ·obtain ⟨_,ih⟩:=rJ hA hP hF hK more (n+1) C listed L hC iz hM;refine ih n _ rfl hmore s hs.2 k ?_ hkr ok dG;rw [List.mem_filter];exact ⟨hk,by rw [pS e]; rfl⟩
  refine ⟨fun h s hs=>?_,fun m l e h s hs k hk hkr ok dG=>?_⟩
  ·obtain ⟨m1,m2⟩:=main none _ rfl h s hs;have back:∀ k,k∈qh L 0 (mU ops)→k∈aaq .any ops listed:=fun k hk=>by
    obtain ⟨j,x,q1,q2,q3,q4⟩:=rH.1 hk;rw [aaO] at q1;subst q1;rw [← aN] at q2;obtain ⟨o,ho,rfl⟩:=vb q2;exact tT hM ho q3 q4 (sy hP ho)
   have YP:∀ k,k∈aaq .any ops listed→k∈qh L 0 (mU ops):=fun k hk=>by
    obtain ⟨h1,o,ho,va⟩:=mem_ready.1 hk;have bW:k < ops.size:=(aax.1 ho).1;refine rH.2 ⟨k,mT ops o,by omega,mV ho,by rw [← hM.FH bW]; exact h1,aas.2 fun e he=>?_⟩;obtain ⟨ed,q1,q2,rfl⟩:=kG.1 he;have h2:=va ed (by simpa using q1) q2;rw [hM.FH (sy hP ho ed (by simpa using q1) q2)] at h2;exact h2
   refine ⟨fun h0=>?_,fun k hk ok dG=>m2 k (YP k hk) hk ok dG⟩;have:=back i m1;rw [h0] at this;simp at this
  ·cases e;exact (main (some l) l rfl h s hs).2 k hk hkr ok dG
theorem Ax {R:ai} {w:World} {β:Nat→Nat} {F:Fence} {Qc:Exit→Act→World→Prop} {C:List Nat} (hQ:∀ a' w',rD E R w β s K a' w'→Qc .normal a' w') :
  ∀ (n:Nat) (listed:Array Bool) (R1:ai) (w1:World) (β1:Nat→Nat) (s1:St) (a1:Act),aY E R1 w1 β1 s1 a1→Step R w β s.boxes R1 w1 β1 s1.boxes→s1.ro=s.ro→cm R1 s1.ro F →
   gX E f ops eH C K n listed s1→wpAnyIn F 0 E.P .any ops Qc n listed a1 w1
 |0,listed,R1,w1,β1,s1,a1,hr,iP,ba,_,ha=>⟨ha.1,hQ _ _ ⟨s1,R1,β1,ha.2,hr,iP,ba⟩⟩
 |n+1,listed,R1,w1,β1,s1,a1,hr,iP,ba,hf,ha=>by
  refine ⟨fun h0=>hQ _ _ ⟨s1,R1,β1,ha.1 h0,hr,iP,ba⟩,fun i hi=>?_⟩;obtain ⟨_,o,ho,_⟩:=mem_ready.1 hi;unfold wpOpIn;simp only [ho];refine uU hr hf (ha.2 i hi o ho) _ ?_;rintro a' w' ⟨s',R',β',q1,q2,q3,q4⟩;exact Ax hQ n _ R' w' β' s' a' q2 (iP.trans q3) (q4.trans ba) (by rw [q4]; exact hf.mono q3.ext) q1.2
theorem gM {K':St→Prop} (hK:∀ s,K s→K' s):∀ (T:DT) (s:St),vV E f ops.toList T K s→vV E f ops.toList T K' s
 |.done,s,h=>hK s h
 |.stop,_,_=>trivial
 |.take j C T,s,h=>by
  unfold vV at h ⊢;split
  ·rename_i oj hj;rw [hj] at h;exact cL h fun s' h'=>gM hK T s' h'
  ·rename_i hj;rw [hj] at h;exact h
 |.al j W T,s,h=>by
  unfold vV at h ⊢;split
  ·rename_i oj hj;rw [hj] at h;exact ⟨h.1,cL h.2 fun s' h'=>gM hK T s' h'⟩
  ·rename_i hj;rw [hj] at h;exact h
 |.br i re C T more,s,h=>by
  unfold vV at h ⊢;refine ⟨?_,gM hK more s h.2⟩;have h:=h.1;split
  ·rename_i oj hj;rw [hj] at h;exact cL h fun s' h'=>⟨h'.1,gM hK T s' h'.2⟩
  ·rename_i hj;rw [hj] at h;exact h
structure ay where
 eH:List (List Nat)
 cf:List (List Nat)
 T:DT
def HZ (ops:Array Oper) (p:ay):Bool:=Jo (ops.toList.map (mT ops)) fun I=>
 DS ops.size fun n=>DS (2 ^ n - 1) fun N=>Ap (M9 p.eH) 0 I&&UM n I&&FD I 0 I p.cf&&nP I N (M9 p.eH) p.cf p.T n [] 0 none
theorem aY.drawn {R:ai} {w:World} {β:Nat→Nat} {a:Act} (h:aY E R w β s a):aY E R { w with drawn:=w.drawn+1 } β s a∧Step R w β s.boxes R { w with drawn:=w.drawn+1 } β s.boxes:=by
 have e:Ext R w R { w with drawn:=w.drawn+1 }:=⟨fun _ _ h=>h,fun _ _ _=>rfl,fun _ ro h=>⟨ro,h,cj.refl ro⟩,fb.refl w⟩;refine ⟨⟨⟨h.g.len,fun id go ro h1 h2=>(h.g.obj id go ro h1 h2).mono e (fun _ _=>rfl) (fun _ _ _ h=>h),h.g.inj,h.g.wf,fun g cs hg=>(h.g.dF g cs hg).mono e,Nat.le_succ_of_le h.g.lo⟩,?_,h.t.mono e,h.n,h.d⟩,?_⟩
 ·exact h.b.keep e (fun _ _ _=>rfl) (fun _ _ _ _ h=>h) (fun _ _ _ h=>h)
 ·exact ⟨e,rfl,rfl,rfl,Nat.le_refl _,fun _ _ _=>rfl,fun _ _ h=>h,fun _ _ h _ _=>h⟩
theorem gl.draw {id:Nat} {p:ay} {Q:Exit→St→Prop} (dG:HZ ops p=true) (h:vV E f ops.toList p.T (Q .normal) s):gl E (.region id ops true) Q s:=fun R w β a F hr hf=>by
 simp only [HZ,FE,qi,aal] at dG;obtain ⟨⟨⟨hA,hP⟩,hF⟩,hT⟩:=dG;refine wpIn_region_any E.mixed ?_;obtain ⟨q1,q2⟩:=hr.drawn;have hK:Inv (fun s=>∃ u,sr u s∧Q .normal u):=fun s t e ⟨u,h1,h2⟩=>⟨u,h1.trans e,h2⟩
 have h':=gM (K':=fun s=>∃ u,sr u s∧Q .normal u) (fun s h=>⟨s,sr.refl s,h⟩) p.T s h;have iz:qf (M9 p.eH) (Array.replicate ops.size false):=fun i hi=>by
  rw [aaQ,Array.getElem?_replicate] at hi;split at hi <;> cases hi
 have UQ:=(rJ (E:=E) (f:=f) (HY hA) hP hF hK p.T ops.size [] (Array.replicate ops.size false) 0 (fun k hk=>by simp at hk) iz ⟨by simp,fun i hi=>by simp [hi]⟩).1 hT s h';refine Ax (R:=R) (w:=w) (β:=β) (s:=s) (f:=f) (K:=fun s=>∃ u,sr u s∧Q .normal u) ?_ _ _ R _ β s a q1 q2 rfl hf UQ;rintro a' w' ⟨s',R',β',⟨u,e,hu⟩,h2,h3,h4⟩;exact ⟨u,R',β',hu,h2.eqv e.symm,h3.eqv rfl e.symm.b,e.ro.trans h4⟩
end
end Go.Am
