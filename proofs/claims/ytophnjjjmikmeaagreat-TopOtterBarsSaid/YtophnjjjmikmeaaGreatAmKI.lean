/- The abstract machine: an operation that changes slots alone may be taken first. -/
import Derived.Test.YtophnjjjmikmeaaGreatAmKH
set_option linter.all false
namespace Go.Am
open Go
section
variable {E:Env} {s t:St} {f:FuncId} {ops:Array Oper} {o oj oi:Oper} {d:Tmp} {x:SV} {K:St→Prop}
theorem JU (ops:Array Oper) (j:Nat):nF ops.toList j=(ops[j]?).bind (·.dst):=by
 unfold nF
 rw [aG,Array.getElem?_toList]
 cases ops[j]? <;> rfl
theorem mz {e:Tmp} (h:.tmp e∈o.op.operands):e∈o.looksAt ops:=
 List.mem_append_left _ (List.mem_filterMap.2 ⟨.tmp e,by simpa using h,rfl⟩)
theorem jt {j:Nat} {want:Bool} {e:Tmp} (h:o.guard=some (j,want)) (he:nF ops.toList j=some e):e∈o.looksAt ops:=by
 rw [JU] at he
 refine List.mem_append_right _ ?_
 rw [h]
 simp [he]
theorem kh (h:∀ e∈o.looksAt ops,lk s.ae e=lk t.ae e):∀ y∈o.op.operands,bp E s.ae y=bp E t.ae y:=fun _ hy=>
 JR fun e he=>h e (mz (he ▸ hy))
theorem jU (h:∀ e∈o.looksAt ops,lk s.ae e=lk t.ae e):BQ ops.toList s o=BQ ops.toList t o:=by
 unfold BQ
 split
 ·rfl
 ·rename_i j want hg
  split
  ·rename_i e he
   rw [h e (jt hg he)]
  ·rfl
theorem uQ (s:St) (d:Tmp) (x:SV) {e:Nat} (h:d≠e):lk (s.put (some d) x).ae e=lk s.ae e:=by
 simp only [St.put]
 split
 ·exact aI h
 ·rfl
theorem fF (s:St) (d:Option Tmp) (x:SV):(s.put d x).boxes=s.boxes∧(s.put d x).G=s.G∧(s.put d x).n=s.n∧(s.put d x).marks=s.marks∧(s.put d x).ro=s.ro:=by
 cases d with
 | none=>exact ⟨rfl,rfl,rfl,rfl,rfl⟩
 | some d=>
  simp only [St.put]
  split <;> exact ⟨rfl,rfl,rfl,rfl,rfl⟩
def wo (E:Env) (f:FuncId) (ops:Array Oper) (o:Oper) (s:St) (x:SV):Prop:=
 (BQ ops.toList s o=some true∧ao E f s o=some (true,s.put o.dst x))∨(BQ ops.toList s o=some false∧x=.v fu)
theorem JV {c:Bool} {s':St} (hN:sb o.op=true) (h:ao E f s o=some (c,s')):∃ x,s'=s.put o.dst x:=by
 obtain ⟨t',_,pre,preB,G,_,h2,_,_⟩:=gO (t:=s) rfl rfl rfl (fun _ _=>rfl) h
 obtain ⟨_,_,x,hx,_⟩:=h2 (by simp [hN])
 exact ⟨x,hx⟩
theorem JW (hN:sb o.op=true):jM E f o K s↔∃ s',ao E f s o=some (true,s')∧K s':=by
 unfold jM
 split
 ·rename_i h
  rw [h] at hN
  simp [sb] at hN
 ·rename_i h
  rw [h] at hN
  simp [sb] at hN
 ·split
  ·rename_i c s' hs
   constructor
   ·intro h
    obtain ⟨rfl,hk⟩:=h.out
    exact ⟨s',hs,hk⟩
   ·rintro ⟨AH,h1,h2⟩
    rw [hs] at h1
    cases h1
    exact di.mk rfl h2
  ·rename_i hs
   constructor
   ·exact fun h=>h.elim
   ·rintro ⟨AH,h1,_⟩
    rw [hs] at h1
    cases h1
theorem wq (hN:sb o.op=true) (hK:Inv K) (h:b9 E f ops.toList o K s):∃ x,wo E f ops o s x∧K (s.put o.dst x):=by
 rcases (fE hK).1 h with ⟨h1,h2⟩ | ⟨h1,h2⟩
 ·obtain ⟨s',h3,h4⟩:=(JW hN).1 h2
  obtain ⟨x,rfl⟩:=JV hN h3
  exact ⟨x,.inl ⟨h1,h3⟩,h4⟩
 ·exact ⟨_,.inr ⟨h1,rfl⟩,h2⟩
theorem wu (hN:sb o.op=true) (hK:Inv K) (hx:wo E f ops o s x) (h:K (s.put o.dst x)):b9 E f ops.toList o K s:=by
 rw [fE hK]
 rcases hx with ⟨h1,h2⟩ | ⟨h1,rfl⟩
 ·exact .inl ⟨h1,(JW hN).2 ⟨_,h2,h⟩⟩
 ·exact .inr ⟨h1,h⟩
def EP (E:Env) (f:FuncId) (ops:List Oper) (o:Oper) (s:St):Prop:=match BQ ops s o with
 | some true=>match o.dst,ao E f s o with
  | some d,some (c,s')=>c=true∧lk s'.ae d=lk s.ae d
  | _,_=>False
 | some false=>True
 | none=>False
theorem MO (hN:sb o.op=true) (hd:d∉o.looksAt ops) (cg:o.dst≠some d) (he:∀ e,d≠e→lk s.ae e=lk t.ae e) (hB:cX s.boxes=cX t.boxes) (hG:s.G=t.G) (hn:s.n=t.n)
  (h:EP E f ops.toList o s):EP E f ops.toList o t:=by
 have hl:∀ e∈o.looksAt ops,lk s.ae e=lk t.ae e:=fun e hm=>he e fun k=>hd (k ▸ hm)
 unfold EP at h ⊢
 rw [← jU hl]
 split
 ·rename_i hg
  rw [hg] at h
  simp only at h
  split at h
  ·rename_i e c s' HU hs
   obtain ⟨t',h3,pre,preB,G,_,h4,_,_⟩:=gO hn hG hB (kh hl) hs
   obtain ⟨_,_,y,h5,h6⟩:=h4 (by simp [hN])
   rw [HU,h3]
   refine ⟨h.1,?_⟩
   have hde:d≠e:=fun k=>cg (by rw [HU,k])
   have h7:=h.2
   rw [h5,HU] at h7
   rw [h6,HU,← he e hde]
   simp only [St.put,← hn] at h7 ⊢
   split
   ·rename_i hb
    rw [hb] at h7
    simp only [ax] at h7 ⊢
    exact h7
   ·exact (he e hde).symm
  ·exact h.elim
 ·trivial
 ·rename_i hg
  rw [hg] at h
  exact h
theorem MP (hN:sb o.op=true) (e:ot s t) (h:EP E f ops.toList o s):EP E f ops.toList o t:=by
 unfold EP at h ⊢
 rw [← AU e]
 split
 ·rename_i hg
  rw [hg] at h
  simp only at h
  split at h
  ·rename_i d c s' HU hs
   obtain ⟨t',h3,pre,preB,G,_,h4,_,_⟩:=gO e.n e.G e.b (fun y _=>e.bp y) hs
   obtain ⟨_,_,y,h5,h6⟩:=h4 (by simp [hN])
   rw [HU,h3]
   refine ⟨h.1,?_⟩
   rw [h6,← (e.put o.dst y).l,← h5,← e.l]
   exact h.2
  ·exact h.elim
 ·trivial
 ·rename_i hg
  rw [hg] at h
  exact h
def iZ (oj oi:Oper):Bool:=bV oi.op || (QB oj.op&&!sb oi.op)
theorem JX {al:Bool} {dst:Option Tmp} {pre:a8} (h:TE al dst pre) {e:Nat} (he:dst≠some e) (l:a8):lk (pre++l) e=lk l e∨(al=true∧∃ k off,lk l e=.lp k off):=by
 rcases h with rfl | ⟨d,y,rfl,rfl | ⟨rfl,rfl⟩⟩
 ·exact .inl rfl
 ·exact .inl (aI fun k=>he (by rw [k]))
 ·simp only [List.cons_append,List.nil_append]
  rw [aI (fun k=>he (by rw [k]))]
  simp only [lk]
  cases hl:lk l e with
  | lp k off=>exact .inr ⟨trivial,k,off,rfl⟩
  | _=>exact .inl rfl
theorem qX {al:Bool} {pre:a8} (preB:cp) (G:List GO) (h:TE al oi.dst pre) (cg:oi.dst≠some d) (hx:al=false∨∃ a,x=.v a):ot ((s.put (some d) x).eY pre preB G) ((s.eY pre preB G).put (some d) x):=by
 have hb:∀ b,Nat.blt d s.n=b→ot ((s.put (some d) x).eY pre preB G) ((s.eY pre preB G).put (some d) x):=fun b hb=>by
  have jC:Nat.blt d (s.eY pre preB G).n=b:=hb
  rw [kU,kU,hb,jC]
  cases b with
  | false=>exact ot.refl _
  | true=>
   refine ⟨funext fun e=>?_,rfl,rfl,rfl,rfl,rfl⟩
   simp only [cond_true,St.eY,List.cons_append,List.nil_append]
   by_cases k:d=e
   ·subst k
    rw [ax]
    rcases JX h cg (.put d x :: s.ae) with h1 | ⟨h1,k,off,h2⟩
    ·rw [h1,ax]
    ·rw [ax] at h2
     rcases hx with hx | ⟨a,hx⟩
     ·rw [hx] at h1; cases h1
     ·rw [hx] at h2; cases h2
   ·rw [aI k]
    exact lW (aI k) pre
 exact hb _ rfl
theorem HV (hN:sb oj.op=true) (Gm:oj.dst=some d) (CD:d∉oj.looksAt ops) (Jy:oj.apart ops oi=true) (hK:Inv K) (hx:wo E f ops oj s x) {pre:a8} {preB:cp} {G:List GO}
  (CE:TE (bV oi.op) oi.dst pre) (UP:sb oi.op=true→preB=[]∧G=s.G) (hk:K ((s.put (some d) x).eY pre preB G)) (Qb:∀ t',K t'→iZ oj oi=true→EP E f ops.toList oj t') :
  ∃ x',wo E f ops oj (s.eY pre preB G) x'∧K ((s.eY pre preB G).put (some d) x'):=by
 obtain ⟨_,cg,vH⟩:=Oper.apart_spec Jy
 have En:oi.dst≠some d:=cg d Gm
 have qY:∀ e∈oj.looksAt ops,oi.dst≠some e:=fun e he k=>vH e k he
 have tj:∀ e∈oj.looksAt ops,(bV oi.op=false∨∃ b,lk s.ae e=.v b)→lk s.ae e=lk (s.eY pre preB G).ae e:=fun e he ha=>by
  rcases JX CE (qY e he) s.ae with h1 | ⟨h1,k,off,h2⟩
  ·exact h1.symm
  ·rcases ha with ha | ⟨b,ha⟩
   ·rw [ha] at h1; cases h1
   ·rw [ha] at h2; cases h2
 have MQ:∀ b,BQ ops.toList s oj=some b→BQ ops.toList (s.eY pre preB G) oj=some b:=fun b hb=>by
  unfold BQ at hb ⊢
  split
  ·rename_i hg; rw [hg] at hb; exact hb
  ·rename_i j want hg
   rw [hg] at hb
   simp only at hb
   split
   ·rename_i e he
    rw [he] at hb
    simp only at hb
    split at hb
    ·rename_i b' hl
     have:=tj e (jt hg he) (.inr ⟨_,hl⟩)
     rw [← this,hl]
     exact hb
    ·rename_i hl
     have:=tj e (jt hg he) (.inr ⟨_,hl⟩)
     rw [← this,hl]
     exact hb
    ·cases hb
   ·rename_i he; rw [he] at hb; cases hb
 rcases hx with ⟨h1,h2⟩ | ⟨h1,rfl⟩
 ·rw [Gm] at h2
  by_cases Yg:iZ oj oi=true
  ·have hr:=Qb _ hk Yg
   -- the state with the slot, and the one without it
   have sy:∀ e,d≠e→lk ((s.put (some d) x).eY pre preB G).ae e=lk (s.eY pre preB G).ae e:=fun e he=>lW (uQ s d x he) pre
   have hB:cX ((s.put (some d) x).eY pre preB G).boxes=cX (s.eY pre preB G).boxes:=by
    simp only [St.eY]; rw [(fF s _ x).1]
   have hn:((s.put (some d) x).eY pre preB G).n=(s.eY pre preB G).n:=(fF s _ x).2.2.1
   have HW:∀ e∈oj.looksAt ops,lk ((s.put (some d) x).eY pre preB G).ae e=lk (s.eY pre preB G).ae e:=fun e he=>sy e fun k=>CD (k ▸ he)
   have hg2:BQ ops.toList ((s.put (some d) x).eY pre preB G) oj=some true:=by rw [jU HW]; exact MQ _ h1
   unfold EP at hr
   rw [hg2] at hr
   simp only [Gm] at hr
   split at hr
   ·rename_i d' c s' F1 hs
    cases F1
    obtain ⟨rfl,hr⟩:=hr
    obtain ⟨t',h3,p,pB,G2,_,h4,_,_⟩:=gO (t:=s.eY pre preB G) hn rfl hB (kh HW) hs
    obtain ⟨_,_,y,h5,h6⟩:=h4 (by simp [hN])
    rw [h6] at h3
    rw [h5,Gm] at hr
    refine ⟨y,.inl ⟨MQ _ h1,h3⟩,hK _ _ ?_ hk⟩
    have hmr:((s.put (some d) x).eY pre preB G).marks=(s.eY pre preB G).marks∧((s.put (some d) x).eY pre preB G).ro=(s.eY pre preB G).ro:=(fF s _ x).2.2.2
    obtain ⟨q1,q2,q3,q4,q5⟩:=fF (s.eY pre preB G) (some d) y
    refine ⟨funext fun e=>?_,by rw [q1]; exact hB,by rw [q2]; rfl,by rw [q4]; exact hmr.1,by rw [q5]; exact hmr.2,by rw [q3]; exact hn⟩
    by_cases k:d=e
    ·subst k
     rw [← hr]
     have hb:∀ b,Nat.blt d s.n=b→lk (((s.put (some d) x).eY pre preB G).put (some d) y).ae d=lk ((s.eY pre preB G).put (some d) y).ae d:=fun b hb=>by
      have QC:Nat.blt d (s.eY pre preB G).n=b:=hb
      have EQ:Nat.blt d ((s.put (some d) x).eY pre preB G).n=b:=by rw [hn]; exact hb
      rw [kU _ d y,kU _ d y,QC,EQ]
      cases b with
      | true=>simp [St.eY,ax]
      | false=>
       simp only [cond_false]
       rw [kU,hb]
       rfl
     exact hb _ rfl
    ·rw [uQ _ _ _ k]
     exact sy e k
   ·exact hr.elim
  ·have CF:bV oi.op=false:=by cases ha:bV oi.op <;> simp_all [iZ]
   have hl:∀ e∈oj.looksAt ops,lk s.ae e=lk (s.eY pre preB G).ae e:=fun e he=>tj e he (.inl CF)
   have fin:∀ y,s.put (some d) x=s.put (some d) y→ao E f (s.eY pre preB G) oj=some (true,(s.eY pre preB G).put oj.dst y) →
     ∃ x',wo E f ops oj (s.eY pre preB G) x'∧K ((s.eY pre preB G).put (some d) x'):=fun y hy hs=>by
    refine ⟨y,.inl ⟨MQ _ h1,hs⟩,hK _ _ (qX (oi:=oi) preB G CE En (.inl CF)) ?_⟩
    rw [← hy]
    exact hk
   cases hNo:sb oi.op with
   | true=>
    obtain ⟨rfl,rfl⟩:=UP hNo
    obtain ⟨t',h3,p,pB,G2,_,h4,_,_⟩:=gO (s:=s) (t:=s.eY pre [] s.G) rfl rfl rfl (kh hl) h2
    obtain ⟨_,_,y,h5,h6⟩:=h4 (by simp [hN])
    rw [Gm] at h5
    exact fin y h5 (by rw [h3,h6])
   | false=>
    have hR:QB oj.op=false:=by cases ha:QB oj.op <;> simp_all [iZ]
    obtain ⟨t',h3,y,h5,h6⟩:=CC (s:=s) (t:=s.eY pre preB G) hN hR rfl (kh hl) h2
    rw [Gm] at h5
    exact fin y h5 (by rw [h3,h6])
 ·exact ⟨_,.inr ⟨MQ _ h1,rfl⟩,hK _ _ (qX (oi:=oi) preB G CE En (.inr ⟨_,rfl⟩)) hk⟩
end
end Go.Am
namespace Go.Am
open Go
section
variable {E:Env} {s t:St} {o:Oper}
def gP (E:Env) (s:St) (o:Oper) (s':St):Prop:=
 (s'.ae=s.ae∨∃ d x,o.dst=some d∧(s'.ae=.put d x :: s.ae∨s'.ae=.put d x :: .kill d :: s.ae)∧∀ k off,x=.lp k off→(∃ y∈o.op.operands,∃ fe,bp E s.ae y=.lp k fe)∨(bV o.op=true∧k=d)) ∧
 (s'.boxes=s.boxes∨∃ k cs,s'.boxes=(k,cs) :: s.boxes∧((bV o.op=true∧o.dst=some k)∨∃ y∈o.op.operands,∃ off,bp E s.ae y=.lp k off))
theorem kV {s1:St} (h1:s1.ae=s.ae) (h2:s1.boxes=s.boxes) {x:SV} (hx:∀ k off,x=.lp k off→∃ y∈o.op.operands,∃ fe,bp E s.ae y=.lp k fe):gP E s o (s1.put o.dst x):=by
 refine ⟨?_,.inl (by rw [(fF s1 o.dst x).1,h2])⟩
 cases hd:o.dst with
 | none=>exact .inl h1
 | some d=>
  simp only [St.put]
  split
  ·exact .inr ⟨d,x,rfl,.inl (by rw [h1]),fun k off h=>.inl (hx k off h)⟩
  ·exact .inl h1
theorem jE {s1:St} (h1:s1.ae=s.ae) (h2:s1.boxes=s.boxes) (a:AV):gP E s o (s1.put o.dst (.v a)):=kV h1 h2 fun k off h=>by cases h
theorem ja {s1:St} (h1:s1.ae=s.ae) (h2:s1.boxes=s.boxes):gP E s o s1:=⟨.inl h1,.inl h2⟩
theorem MR {k:Nat} {cs:List AV} (h:∃ y∈o.op.operands,∃ off,bp E s.ae y=.lp k off):gP E s o (s.ta k cs):=⟨.inl rfl,.inr ⟨k,cs,rfl,.inr h⟩⟩
theorem CG {n:Nat} {x:SV} {k off:Nat} (h:yZ n x=some (.lp k off)):∃ fe,x=.lp k fe:=by
 unfold yZ at h
 split at h <;> cases h
 exact ⟨_,rfl⟩
theorem yM {ty:TypeId} {x:SV} {j k off:Nat} (h:jX E ty x j=some (.lp k off)):∃ fe,x=.lp k fe:=by
 unfold jX at h
 repeat' (split at h)
 all_goals (first | (cases h; done) | exact CG h)
theorem yN {ty:TypeId} {x ix:SV} {c:Bool} {k off:Nat} (h:jW E ty x ix=some (c,.lp k off)):∃ fe,x=.lp k fe:=by
 unfold jW at h
 repeat' (split at h)
 all_goals (first | (cases h; done) | skip)
 rename_i hm
 injection h with h; injection h with h1 h2; subst h2
 exact CG hm
theorem ER {ty:TypeId} {p x:SV} {s':St} (hp:∀ k off,p=.lp k off→∃ y∈o.op.operands,∃ fe,bp E s.ae y=.lp k fe) (h:gl E s ty p x=some s'):gP E s o s':=by
 unfold gl at h
 repeat' (split at h)
 all_goals (first | (cases h; done) | skip)
 ·cases h; exact MR (hp _ _ rfl)
 ·cases h; exact ja rfl rfl
theorem ES {ty:TypeId} {p x:SV} {c:Bool} {s':St} (hp:∀ k off,p=.lp k off→∃ y∈o.op.operands,∃ fe,bp E s.ae y=.lp k fe) (h:er E s ty p x=some (c,s')):gP E s o s':=by
 unfold er at h
 repeat' (split at h)
 all_goals (first | (cases h; done) | skip)
 ·injection h with h; injection h with h1 h2; subst h2; exact ja rfl rfl
 ·injection h with h; injection h with h1 h2; subst h2; exact ja rfl rfl
 ·injection h with h; injection h with h1 h2; subst h2; exact ja rfl rfl
 ·injection h with h; injection h with h1 h2; subst h2; exact ja rfl rfl
 ·rename_i hs
  injection h with h; injection h with h1 h2; subst h2; exact ER hp hs
theorem ET {ty:TypeId} {p x:SV} {c:Bool} {s':St} (hp:∀ k off,p=.lp k off→∃ y∈o.op.operands,∃ fe,bp E s.ae y=.lp k fe) (h:jl E s ty p x=some (c,s')):gP E s o s':=by
 unfold jl at h
 split at h
 ·rename_i hs
  injection h with h; injection h with e1 e2
  subst e2
  exact ES (s:=s.bn (pn s p x).2.2) hp hs
 ·cases h
theorem tK {ty:TypeId} {m k x:SV} {s':St} (h:eN E s ty m k x=some s'):gP E s o s':=by
 unfold eN at h
 repeat' (split at h)
 all_goals (first | (cases h; done) | skip)
 cases h; exact ja rfl rfl
theorem HX {x:SV} {s':St} (h:kQ s o.dst x=some s'):gP E s o s':=by
 unfold kQ at h
 split at h
 ·split at h
  ·rename_i l pos hg
   cases hb:Nat.blt pos l.length with
   | true=>
    rw [hb] at h
    simp only [cond_true] at h
    cases h
    exact jE rfl rfl _
   | false=>
    rw [hb] at h
    simp only [cond_false] at h
    cases h
    exact jE rfl rfl _
  ·cases h
 ·cases h
theorem AW {b:Builtin} {l:List AV} {tys:List TypeId} {c:Bool} {s':St} (h:bS E s o.dst b l tys=some (c,s')):gP E s o s':=by
 unfold bS at h
 cases b
 all_goals (try (cases h; done))
 all_goals (try simp only at h)
 all_goals (try (split at h <;> first | (cases h; done) | simp only at h))
 all_goals (repeat' (split at h))
 all_goals (first | (cases h; done) | skip)
 all_goals (injection h with h; injection h with h1 h2; subst h1 h2)
 all_goals (first | exact jE rfl rfl _ | exact ja rfl rfl)
theorem HY {f:FuncId} {c:Bool} {s':St} (h:gu E f s o=some (c,s')):gP E s o s':=by
 unfold gu at h
 repeat' (split at h)
 all_goals (first | (cases h; done) | skip)
 injection h with h; injection h with h2 h3
 subst h3
 exact jE rfl rfl _
theorem wv {f:FuncId} {el:TypeId} {cs:List AV} {c:Bool} {s':St} (ha:bV o.op=true) (h:eL E f s o.dst el cs=some (c,s')):gP E s o s':=by
 unfold eL at h
 split at h
 ·cases h
 ·rename_i d hd
  split at h
  ·injection h with h; injection h with h1 h2; subst h2
   rw [← hd]
   exact jE rfl rfl _
  ·split at h
   ·rename_i hb
    injection h with h; injection h with h1 h2; subst h2
    refine ⟨.inr ⟨d,.lp d 0,hd,.inr ?_,fun k off h=>by cases h; exact .inr ⟨ha,rfl⟩⟩,.inr ⟨d,cs,?_,.inl ⟨ha,hd⟩⟩⟩
    ·simp only [St.put,St.ta,St.kill,hb]
    ·rw [(fF _ (some d) (.lp d 0)).1]; rfl
   ·cases h
theorem EU {f:FuncId} {c:Bool} {s':St} (h:ao E f s o=some (c,s')):gP E s o s':=by
 cases ho:o.op
 case move x=>
  simp only [ao,ho] at h
  split at h
  all_goals (injection h with h; injection h with h1 h2; subst h2)
  ·exact jE rfl rfl _
  ·rename_i k off hx
   exact kV rfl rfl fun k' fe e=>by cases e; exact ⟨x,by rw [ho]; simp [Op.operands],_,hx⟩
  ·exact kV rfl rfl fun k' fe e=>by cases e
 case assign x=>
  simp only [ao,ho] at h
  split at h
  all_goals (injection h with h; injection h with h1 h2; subst h2)
  ·exact jE rfl rfl _
  ·rename_i k off hx
   exact kV rfl rfl fun k' fe e=>by cases e; exact ⟨x,by rw [ho]; simp [Op.operands],_,hx⟩
  ·exact kV rfl rfl fun k' fe e=>by cases e
 case nilCheck x=>
  simp only [ao,ho] at h
  split at h
  ·injection h with h; injection h with h1 h2; subst h2
   exact jE rfl rfl _
  ·injection h with h; injection h with h1 h2; subst h2
   exact jE rfl rfl _
  ·rename_i k off hx
   injection h with h; injection h with h1 h2; subst h2
   exact kV rfl rfl fun k' fe e=>by cases e; exact ⟨x,by rw [ho]; simp [Op.operands],_,hx⟩
  ·cases h
 case fieldAddr a x j=>
  simp only [ao,ho] at h
  split at h
  ·rename_i p hp
   injection h with h; injection h with h1 h2; subst h2
   exact kV rfl rfl fun k' fe e=>by subst e; exact ⟨x,by rw [ho]; simp [Op.operands],yM hp⟩
  ·cases h
 case indexAddr a x y=>
  simp only [ao,ho] at h
  split at h
  ·rename_i c' p hp
   injection h with h; injection h with h1 h2; subst h2
   exact kV rfl rfl fun k' fe e=>by subst e; exact ⟨x,by rw [ho]; simp [Op.operands],yN hp⟩
  ·cases h
 case alloc e=>
  simp only [ao,ho] at h
  repeat' (split at h)
  all_goals (first | (cases h; done) | skip)
  exact wv (by rw [ho]; rfl) h
 case box e x=>
  simp only [ao,ho] at h
  repeat' (split at h)
  all_goals (first | (cases h; done) | skip)
  exact wv (by rw [ho]; rfl) h
 case store ty x y=>
  simp only [ao,ho] at h
  split at h
  ·rename_i hs
   injection h with h; injection h with h1 h2; subst h2
   exact ET (fun k off e=>⟨x,by rw [ho]; simp [Op.operands],off,e⟩) hs
  ·cases h
 case mapUpdate ty x y z=>
  simp only [ao,ho] at h
  split at h
  ·rename_i hs
   injection h with h; injection h with h1 h2; subst h2
   exact tK hs
  ·cases h
 case insert ty x y z=>
  simp only [ao,ho] at h
  split at h
  ·rename_i hs
   injection h with h; injection h with h1 h2; subst h2
   exact tK hs
  ·cases h
 case mapEntry ty x y=>
  simp only [ao,ho] at h
  split at h
  ·rename_i hs
   injection h with h; injection h with h1 h2; subst h2
   unfold fL at hs
   repeat' (split at hs)
   all_goals (first | (cases hs; done) | skip)
   injection hs with hs; injection hs with h3 hs; injection hs with h4 h5
   subst h5
   exact jE rfl rfl _
  ·cases h
 case entryStore ty x y z=>
  simp only [ao,ho] at h
  split at h
  ·rename_i hs
   injection h with h; injection h with h1 h2; subst h2
   unfold dM at hs
   repeat' (split at hs)
   all_goals (first | (cases hs; done) | skip)
   injection hs with hs; injection hs with h3 h4
   subst h4
   exact ja rfl rfl
  ·cases h
 case next x b=>
  cases b with
  | false=>simp [ao,ho] at h
  | true=>
   simp only [ao,ho] at h
   split at h
   ·rename_i hs
    injection h with h; injection h with h1 h2; subst h2
    exact HX hs
   ·cases h
 case call cl=>
  obtain ⟨callee,args,tys⟩:=cl
  cases callee with
  | builtin b=>
   simp only [ao,ho] at h
   split at h
   ·rename_i r hf
    cases h
    exact HY hf
   ·split at h
    ·exact AW h
    ·cases h
  | _=>simp [ao,ho] at h
 case makeFunc fo a b=>
  cases fo with
  | func g=>
   simp only [ao,ho] at h
   repeat' (split at h)
   all_goals (first | (cases h; done) | skip)
   injection h with h; injection h with h1 h2; subst h2
   exact jE rfl rfl _
  | _=>simp [ao,ho] at h
 case makeMap ty r=>
  cases r with
  | none=>
   simp only [ao,ho] at h
   injection h with h; injection h with h1 h2; subst h2
   exact jE rfl rfl _
  | some _=>simp [ao,ho] at h
 all_goals (first
  | (simp [ao,ho] at h; done)
  | (simp only [ao,mi,ho] at h; (repeat' (split at h)); (all_goals (first | (cases h; done) | skip)); (all_goals (injection h with h; injection h with h1 h2; subst h2)); (all_goals (exact jE rfl rfl _))))
def pJ (s:St) (d:Nat) (cs:List AV):St:=s.eY [.put d (.lp d 0),.kill d] [(d,cs)] s.G
theorem EV {f:FuncId} {d:Tmp} {c:Bool} {s1:St} (CF:bV o.op=true) (hd:o.dst=some d) (hg:E.vf f d=false) (h:ao E f s o=some (c,s1)) :
  c=true∧∃ cs,s1=pJ s d cs∧∀ t:St,t.n=s.n→(∀ y∈o.op.operands,∀ v,bp E s.ae y=.v v→bp E t.ae y=.v v)→ao E f t o=some (true,pJ t d cs):=by
 have key:∀ (el:TypeId) (cs:List AV),eL E f s o.dst el cs=some (c,s1)→c=true∧s1=pJ s d cs∧∀ t:St,t.n=s.n→eL E f t o.dst el cs=some (true,pJ t d cs):=by
  intro el cs h
  unfold eL at h
  rw [hd] at h
  simp only [hg,Bool.false_eq_true,if_false] at h
  split at h
  ·rename_i hb
   injection h with h; injection h with h1 h2; subst h1 h2
   refine ⟨rfl,?_,fun t ht=>?_⟩
   ·simp only [St.put,St.ta,St.kill,hb,pJ,St.eY]; rfl
   ·unfold eL
    rw [hd]
    simp only [hg,Bool.false_eq_true,if_false,ht,hb]
    simp only [St.put,St.ta,St.kill,ht,hb,pJ,St.eY]; rfl
  ·cases h
 cases ho:o.op
 case alloc e=>
  simp only [ao,ho] at h ⊢
  split at h
  ·split at h
   ·split at h
    ·rename_i hi _ _ hz Hs
     obtain ⟨k1,k2,k3⟩:=key _ _ h
     refine ⟨k1,_,k2,fun t ht _=>?_⟩
     simp only [hi,hz,Hs,if_true]
     exact k3 t ht
    ·cases h
   ·cases h
  ·cases h
 case box e x=>
  simp only [ao,ho] at h ⊢
  split at h
  ·split at h
   ·rename_i v hv Hs
    obtain ⟨k1,k2,k3⟩:=key _ _ h
    refine ⟨k1,_,k2,fun t ht he=>?_⟩
    simp only [he x (by simp [Op.operands]) v hv,Hs,if_true]
    exact k3 t ht
   ·cases h
  ·cases h
 all_goals (rw [ho] at CF; simp [bV] at CF)
theorem Gn {pre:a8} {preB:cp} {G:List GO} (h:gP E s o (s.eY pre preB G)) :
  (pre=[]∨∃ d x,o.dst=some d∧(pre=[.put d x]∨pre=[.put d x,.kill d])∧∀ k off,x=.lp k off→(∃ y∈o.op.operands,∃ fe,bp E s.ae y=.lp k fe)∨(bV o.op=true∧k=d)) ∧
  (preB=[]∨∃ k cs,preB=[(k,cs)]∧((bV o.op=true∧o.dst=some k)∨∃ y∈o.op.operands,∃ off,bp E s.ae y=.lp k off)):=by
 obtain ⟨h1,h2⟩:=h
 refine ⟨?_,?_⟩
 ·rcases h1 with h1 | ⟨d,x,hd,h1,hx⟩
  ·exact .inl (by simpa [St.eY] using h1)
  ·refine .inr ⟨d,x,hd,?_,hx⟩
   rcases h1 with h1 | h1
   ·left
    have h1:pre++s.ae=[.put d x]++s.ae:=h1
    exact List.append_cancel_right h1
   ·right
    have h1:pre++s.ae=[.put d x,.kill d]++s.ae:=h1
    exact List.append_cancel_right h1
 ·rcases h2 with h2 | ⟨k,cs,h2,hx⟩
  ·exact .inl (by simpa [St.eY] using h2)
  ·refine .inr ⟨k,cs,?_,hx⟩
   have h2:preB++s.boxes=[(k,cs)]++s.boxes:=h2
   exact List.append_cancel_right h2
theorem jb (d e:Nat) (l:a8):lk (.kill d :: l) e=(match lk l e with | .lp k off=>bif Nat.beq k d then .none else .lp k off | x=>x):=rfl
theorem wx {d e:Nat} {l:a8} (h:∀ off,lk l e≠.lp d off):lk (.kill d :: l) e=lk l e:=by
 rw [jb]
 split
 ·rename_i k off hk
  cases hb:Nat.beq k d with
  | true=>exact absurd (by rw [hk,Nat.eq_of_beq_eq_true hb]) (h off)
  | false=>rw [hk]; rfl
 ·rfl
theorem HZ {d:Nat} {pre:a8} {preB:cp} {G:List GO} (cs:List AV) (MS:gP E s o (s.eY pre preB G)) (cg:o.dst≠some d) (H0:∀ y∈o.op.operands,∀ off,bp E s.ae y≠.lp d off) :
  ot ((pJ s d cs).eY pre preB G) (pJ (s.eY pre preB G) d cs):=by
 obtain ⟨h1,h2⟩:=Gn MS
 refine ⟨funext fun e=>?_,funext fun k=>?_,rfl,rfl,rfl,rfl⟩
 ·show lk (pre++([.put d (.lp d 0),.kill d]++s.ae)) e=lk ([.put d (.lp d 0),.kill d]++(pre++s.ae)) e
  rcases h1 with rfl | ⟨d',x,hd,hp,hx⟩
  ·rfl
  ·have WH:d'≠d:=fun c=>cg (by rw [hd,c])
   have oM:∀ off,x≠.lp d off:=fun off c=>by
    rcases hx d off c with ⟨y,hy,fe,ho⟩ | ⟨_,h⟩
    ·exact H0 y hy fe ho
    ·exact WH h.symm
   by_cases c1:d=e
   ·subst c1
    rcases hp with rfl | rfl
    ·simp only [List.cons_append,List.nil_append]
     rw [aI WH,ax,ax]
    ·simp only [List.cons_append,List.nil_append]
     rw [aI WH,ax,wx (fun off=>by rw [ax]; intro c; cases c; exact WH rfl),ax]
   ·simp only [List.cons_append,List.nil_append]
    rw [aI c1]
    by_cases c2:d'=e
    ·subst c2
     rcases hp with rfl | rfl
     ·simp only [List.cons_append,List.nil_append]
      rw [ax,wx (fun off=>by rw [ax]; exact oM off),ax]
     ·simp only [List.cons_append,List.nil_append]
      rw [ax,wx (fun off=>by rw [ax]; exact oM off),ax]
    ·rcases hp with rfl | rfl
     ·simp only [List.cons_append,List.nil_append]
      rw [aI c2,aI c1,jb,jb,aI c2]
     ·simp only [List.cons_append,List.nil_append]
      rw [aI c2,jb,aI c1,jb,jb,aI c2,jb]
      cases lk s.ae e with
      | lp k off=>cases hb:Nat.beq k d <;> cases EQ:Nat.beq k d' <;> simp [hb,EQ]
      | _=>rfl
 ·show cX (preB++([(d,cs)]++s.boxes)) k=cX ([(d,cs)]++(preB++s.boxes)) k
  rcases h2 with rfl | ⟨k',dJ,rfl,hk⟩
  ·rfl
  ·have L5:k'≠d:=fun c=>by
    subst c
    rcases hk with ⟨_,hk⟩ | ⟨y,hy,off,ho⟩
    ·exact cg hk
    ·exact H0 y hy off ho
   simp only [List.cons_append,List.nil_append,cX]
   cases hb:Nat.beq k' k with
   | true=>
    have:Nat.beq d k=false:=by
     cases EQ:Nat.beq d k with
     | true=>exact absurd ((Nat.eq_of_beq_eq_true hb).trans (Nat.eq_of_beq_eq_true EQ).symm) L5
     | false=>rfl
    rw [this]; rfl
   | false=>rfl
end
section
variable {E:Env} {s t:St} {f:FuncId} {o:Oper} {K K':St→Prop}
theorem EW (hn:s.n=t.n) (hG:s.G=t.G) (hB:∀ k off,(∃ y∈o.op.operands,bp E s.ae y=.lp k off)→cX s.boxes k=cX t.boxes k) (dP:∀ y∈o.op.operands,bp E s.ae y=bp E t.ae y) (h:jM E f o K s)
  (hK:∀ pre preB G,gP E t o (t.eY pre preB G)→K (s.eY pre preB G)→K' (t.eY pre preB G)):jM E f o K' t:=by
 unfold jM at h ⊢
 split at h
 ·rename_i x args tys ho
  have h1:bp E s.ae x=bp E t.ae x:=dP x (by rw [ho]; simp [Op.operands,Call.operands])
  have h2:kN E s.ae args.toList=kN E t.ae args.toList:=fU fun y hy=>dP y (by rw [ho]; simp [Op.operands,Call.operands]; exact .inr (by simpa using hy))
  try simp only [ho]
  rw [← h1,← h2,← hG]
  split at h
  ·refine cJ.mono h fun r G' hk=>?_
   obtain ⟨pre,preB,G,p1,p2,p3,p4⟩:=bM.cV (s:=s) (t:=t) (al:=bV o.op) hn G' o.dst (.v r)
   rw [p3] at hk
   have hO:gP E t o ((t.bn G').put o.dst (.v r)):=jE rfl rfl _
   rw [p4] at hO ⊢
   exact hK pre preB G hO hk
  ·refine kf.mono h fun r G' hk=>?_
   obtain ⟨pre,preB,G,p1,p2,p3,p4⟩:=bM.cV (s:=s) (t:=t) (al:=bV o.op) hn G' o.dst (.v (.bool r))
   rw [p3] at hk
   have hO:gP E t o ((t.bn G').put o.dst (.v (.bool r))):=jE rfl rfl _
   rw [p4] at hO ⊢
   exact hK pre preB G hO hk
  ·exact h.elim
 ·exact h.elim
 ·split at h
  ·rename_i c s' hs
   obtain ⟨t',h1,pre,preB,G,p1,p2,p3,p4⟩:=qW hn hG hB dP hs
   have hO:=EU h1
   rw [h1]
   obtain ⟨rfl,hk⟩:=h.out
   refine di.mk rfl ?_
   rw [p3] at hk
   rw [p4] at hO ⊢
   exact hK pre preB G hO hk
  ·exact h.elim
theorem Gp (ha:bV o.op=true):jM E f o K s↔∃ s',ao E f s o=some (true,s')∧K s':=by
 unfold jM
 split
 ·rename_i h
  rw [h] at ha
  simp [bV] at ha
 ·rename_i h
  rw [h] at ha
  simp [bV] at ha
 ·split
  ·rename_i c s' hs
   constructor
   ·intro h
    obtain ⟨rfl,hk⟩:=h.out
    exact ⟨s',hs,hk⟩
   ·rintro ⟨AH,h1,h2⟩
    rw [hs] at h1
    cases h1
    exact di.mk rfl h2
  ·rename_i hs
   constructor
   ·exact fun h=>h.elim
   ·rintro ⟨AH,h1,_⟩
    rw [hs] at h1
    cases h1
end
end Go.Am
namespace Go.Am
open Go
section
variable {E:Env} {s t:St} {f:FuncId} {ops:Array Oper} {o oj oi:Oper} {d:Tmp} {x:SV} {K K':St→Prop} {dc:Nat→List Nat} {C:List Nat}
def EX (E:Env) (f:FuncId) (ops:Array Oper) (dc:Nat→List Nat) (C:List Nat) (i:Nat) (s:St):Prop:=
 ∀ j∈C,∀ oj oi,ops[j]?=some oj→ops[i]?=some oi→iZ oj oi=true→j∉dc i→EP E f ops.toList oj s
def NC (ops:Array Oper) (C:List Nat):Prop:=∀ j∈C,∀ oj,ops[j]?=some oj→sb oj.op=true
theorem ov {i:Nat} (hC:NC ops C):Inv (EX E f ops dc C i):=fun _ _ e h j hj oj oi h1 h2 h3 h4=>MP (hC j hj oj h1) e (h j hj oj oi h1 h2 h3 h4)
def fm (E:Env) (f:FuncId) (ops:Array Oper) (dc:Nat→List Nat) (C:List Nat) (K:St→Prop):Nat→Array Bool→St→Prop
 | 0,listed,s=>Region.ready .any ops listed=[]∧K s
 | n+1,listed,s=>(Region.ready .any ops listed=[]→K s) ∧
   ∀ i∈Region.ready .any ops listed,∀ oi,ops[i]?=some oi→b9 E f ops.toList oi (fun s'=>EX E f ops dc C i s'∧fm E f ops dc C K n (listed.setIfInBounds i true) s') s
theorem gQ (hC:NC ops C) (hK:Inv K):∀ n listed,Inv (fm E f ops dc C K n listed)
 | 0,_=>fun s t e h=>⟨h.1,hK s t e h.2⟩
 | n+1,_=>fun s t e h=>⟨fun h0=>hK s t e (h.1 h0),fun i hi oi qY=>CB (fun s t e h=>⟨ov hC s t e h.1,gQ hC hK n _ s t e h.2⟩) s t e (h.2 i hi oi qY)⟩
theorem mA {C':List Nat}:∀ n (listed:Array Bool) (s:St),
  (∀ k∈C',k∈C∨∀ i ok oi,ops[k]?=some ok→ops[i]?=some oi→listed.getD i true=false→iZ ok oi=true→k∈dc i) →
  fm E f ops dc C K n listed s→fm E f ops dc C' K n listed s
 | 0,_,_,_,h=>h
 | n+1,listed,s,hk,h=>⟨h.1,fun i hi oi qY=>ca (h.2 i hi oi qY) fun s' h'=>⟨fun k QD ok Pd h1 h2 h3 h4=>by
   rcases hk k QD with h5 | h5
   ·exact h'.1 k h5 ok Pd h1 h2 h3 h4
   ·exact absurd (h5 i ok Pd h1 h2 (mem_ready.1 hi).1 h3) h4,mA n _ s' (fun k QD=>by
   rcases hk k QD with h5 | h5
   ·exact .inl h5
   ·refine .inr fun i' ok Pd h1 h2 h3 h4=>h5 i' ok Pd h1 h2 ?_ h4
    by_cases e:i=i'
    ·subst e; exact (mem_ready.1 hi).1
    ·rw [getD_set_ne true e] at h3; exact h3) h'.2⟩⟩
def zC (ops:Array Oper) (dc:Nat→List Nat):Prop:=∀ i oi a,ops[i]?=some oi→a∈dc i→∃ e∈oi.after,Region.binds .any e=true∧(e.on=a∨a∈dc e.on)
def mB (dc:Nat→List Nat) (listed:Array Bool):Prop:=∀ i,listed.getD i false=true→∀ a∈dc i,listed.getD a false=true
theorem mB.ready {listed:Array Bool} (h:mB dc listed) (ha:zC ops dc) {i:Nat} (hi:i∈Region.ready .any ops listed):∀ a∈dc i,listed.getD a false=true:=fun a WI=>by
 obtain ⟨_,o,ho,nI⟩:=mem_ready.1 hi
 obtain ⟨e,he,hb,h2⟩:=ha i o a ho WI
 rcases h2 with rfl | h2
 ·exact nI e he hb
 ·exact h _ (nI e he hb) a h2
theorem ju {listed:Array Bool} {i:Nat} (h:listed.getD i false=true):listed.getD i true=true:=by
 rw [Array.getD_eq_getD_getElem?] at *
 cases hl:listed[i]? with
 | none=>rw [hl] at h; cases h
 | some b=>rw [hl] at h; exact h
theorem mB.add {listed:Array Bool} (h:mB dc listed) (ha:zC ops dc) {i:Nat} (hi:i∈Region.ready .any ops listed):mB dc (listed.setIfInBounds i true):=fun k hk a WI=>by
 by_cases e:i=k
 ·subst e
  exact getD_set_true (h.ready ha hi a WI)
 ·rw [getD_set_ne false e] at hk
  exact getD_set_true (h k hk a WI)
theorem EY (hA:zC ops dc) (hC:NC ops C) (hK:Inv K) {j:Nat} (hj:ops[j]?=some oj) (hN:sb oj.op=true) (Gm:oj.dst=some d) (CD:d∉oj.looksAt ops)
  (Yh:∀ k∈C,∀ ok,ops[k]?=some ok→d∉ok.looksAt ops∧ok.dst≠some d):∀ n (listed:Array Bool) (s:St) (x:SV),mB dc listed →
   (∀ i oi,ops[i]?=some oi→i≠j→listed.getD i true=false→(∀ e∈oi.after,Region.binds .any e=true→e.on≠j)→oj.apart ops oi=true) →
   j∈Region.ready .any ops listed→wo E f ops oj s x→fm E f ops dc (j :: C) K n (listed.setIfInBounds j true) (s.put (some d) x)→fm E f ops dc C K (n+1) listed s:=by
 have Ma:NC ops (j :: C):=fun k hk ok ho=>by
  rcases List.mem_cons.1 hk with rfl | hk
  ·rw [hj] at ho; cases ho; exact hN
  ·exact hC k hk ok ho
 have self:∀ n (listed:Array Bool) (s:St) (x:SV),wo E f ops oj s x→fm E f ops dc (j :: C) K n (listed.setIfInBounds j true) (s.put (some d) x)→∀ oi,ops[j]?=some oi →
   b9 E f ops.toList oi (fun s'=>EX E f ops dc C j s'∧fm E f ops dc C K n (listed.setIfInBounds j true) s') s:=fun n listed s x hx h oi qY=>by
  rw [hj] at qY
  cases qY
  refine wu hN (fun s t e h=>⟨ov hC s t e h.1,gQ hC hK _ _ s t e h.2⟩) hx ?_
  rw [Gm]
  refine ⟨fun k _ ok Pd _ h2 h3 _=>?_,mA n _ _ (fun k hk=>.inl (List.mem_cons_of_mem _ hk)) h⟩
  rw [hj] at h2
  cases h2
  simp [iZ,Cz hN,hN] at h3
 intro n
 induction n with
 | zero=>
  intro listed s x _ _ hr hx h
  refine ⟨fun h0=>by rw [h0] at hr; simp at hr,fun i hi oi qY=>?_⟩
  by_cases e:i=j
  ·subst e; exact self 0 listed s x hx h oi qY
  ·have:=ready_mono hi e
   rw [h.1] at this
   simp at this
 | succ n ih=>
  intro listed s x gi iX hr hx h
  refine ⟨fun h0=>by rw [h0] at hr; simp at hr,fun i hi oi qY=>?_⟩
  by_cases e:i=j
  ·subst e; exact self (n+1) listed s x hx h oi qY
  ·have JY:=(mem_ready.1 hi).1
   have MT:=(mem_ready.1 hr).1
   have PW:∀ ed∈oi.after,Region.binds .any ed=true→ed.on≠j:=fun ed he hb iP=>by
    obtain ⟨_,o,ho,nI⟩:=mem_ready.1 hi
    rw [qY] at ho
    cases ho
    have h1:=ju (nI ed he hb)
    rw [iP,MT] at h1
    cases h1
   have Jy:=iX i oi qY e JY PW
   have hG:=h.2 i (ready_mono hi e) oi qY
   have JZ:j∉dc i:=fun hm=>by
    have h1:=ju (gi.ready hA hi j hm)
    rw [MT] at h1
    cases h1
   have WJ:Inv (fun s'=>EX E f ops dc (j :: C) i s'∧fm E f ops dc (j :: C) K n ((listed.setIfInBounds j true).setIfInBounds i true) s'):=
    fun s t e h=>⟨ov Ma s t e h.1,gQ Ma hK _ _ s t e h.2⟩
   have QE:∀ k ok,ops[k]?=some ok→k≠j→(listed.setIfInBounds i true).getD k true=false→(∀ e∈ok.after,Region.binds .any e=true→e.on≠j)→oj.apart ops ok=true:=fun k ok hk Yi UQ nu=>by
    refine iX k ok hk Yi ?_ nu
    by_cases e':i=k
    ·subst e'; exact JY
    ·rw [getD_set_ne true e'] at UQ; exact UQ
   have core:∀ {pre:a8} {preB:cp} {G:List GO},TE (bV oi.op) oi.dst pre→(sb oi.op=true→preB=[]∧G=s.G) →
     (EX E f ops dc (j :: C) i ((s.put (some d) x).eY pre preB G)∧fm E f ops dc (j :: C) K n ((listed.setIfInBounds j true).setIfInBounds i true) ((s.put (some d) x).eY pre preB G)) →
     EX E f ops dc C i (s.eY pre preB G)∧fm E f ops dc C K (n+1) (listed.setIfInBounds i true) (s.eY pre preB G):=by
    intro pre preB G CE UP hk
    obtain ⟨x',oM,gm⟩:=HV hN Gm CD Jy WJ hx CE UP hk (fun t' qF hd=>qF.1 j (List.mem_cons_self ..) oj oi hj qY hd JZ)
    refine ⟨fun k QD ok Pd h1 h2 h3 h4=>?_,?_⟩
    ·obtain ⟨q1,q2⟩:=Yh k QD ok h1
     obtain ⟨b1,b2,b3,_⟩:=fF (s.eY pre preB G) (some d) x'
     exact MO (hC k QD ok h1) q1 q2 (fun e he=>uQ _ _ _ he) (by rw [b1]) b2 b3 (gm.1 k (List.mem_cons_of_mem _ QD) ok Pd h1 h2 h3 h4)
    ·refine ih (listed.setIfInBounds i true) _ x' (gi.add hA hi) QE (ready_mono hr (Ne.symm e)) oM ?_
     rw [Array.setIfInBounds_comm _ _ e]
     exact gm.2
   rw [fE (fun s t e h=>⟨ov hC s t e h.1,gQ hC hK _ _ s t e h.2⟩)]
   obtain ⟨AK,_,_⟩:=Oper.apart_spec Jy
   have tj:∀ e∈oi.looksAt ops,lk (s.put (some d) x).ae e=lk s.ae e:=fun e he=>uQ s d x fun k=>AK d Gm (k ▸ he)
   obtain ⟨b1,b2,b3,b4,b5⟩:=fF s (some d) x
   rcases (fE WJ).1 hG with ⟨h1,h2⟩ | ⟨h1,h2⟩
   ·refine .inl ⟨by rw [← jU tj]; exact h1,sH b3 b2 (by rw [b1]) (kh tj) h2 fun pre preB G hp UP hk=>core hp (fun hh=>?_) hk⟩
    obtain ⟨q1,q2⟩:=UP hh
    exact ⟨q1,by rw [q2,b2]⟩
   ·refine .inr ⟨by rw [← jU tj]; exact h1,?_⟩
    obtain ⟨pre,preB,G,p1,p2,p3,p4⟩:=bM.put (s:=s.put (some d) x) (t:=s) (al:=bV oi.op) (w:=false) b3 b2 oi.dst (.v fu)
    obtain ⟨q1,q2,_⟩:=p2 rfl
    rw [p3] at h2
    rw [p4]
    exact core p1 (fun _=>⟨q1,by rw [q2,b2]⟩) h2
theorem Gq {i:Nat} {s:St}:EX E f ops dc [] i s:=fun j hj=>by cases hj
theorem QF {y:Operand} {k off:Nat} (h:bp E s.ae y=.lp k off):∃ e,y=.tmp e∧lk s.ae e=.lp k off:=by
 cases y with
 | tmp e=>exact ⟨e,rfl,h⟩
 | const v=>simp only [bp] at h; split at h <;> cases h
 | global g=>simp only [bp] at h; split at h <;> cases h
 | func g=>cases h
theorem J0 (hA:zC ops dc) (hK:Inv K) {j:Nat} (hj:ops[j]?=some oj) (hg:oj.guard=none) (Gm:oj.dst=some d) (CF:bV oj.op=true) (QG:E.vf f d=false):∀ n (listed:Array Bool) (s s1:St),mB dc listed →
  (∀ i oi,ops[i]?=some oi→i≠j→listed.getD i true=false→j∉dc i→oj.apart ops oi=true∧∀ e∈oi.looksAt ops,∀ off,lk s.ae e≠.lp d off) →
  j∈Region.ready .any ops listed→ao E f s oj=some (true,s1)→fm E f ops dc [] K n (listed.setIfInBounds j true) s1→fm E f ops dc [] K (n+1) listed s:=by
 have Ma:NC ops []:=fun k hk=>by cases hk
 have self:∀ n (listed:Array Bool) (s s1:St),ao E f s oj=some (true,s1)→fm E f ops dc [] K n (listed.setIfInBounds j true) s1→∀ oi,ops[j]?=some oi →
   b9 E f ops.toList oi (fun s'=>EX E f ops dc [] j s'∧fm E f ops dc [] K n (listed.setIfInBounds j true) s') s:=fun n listed s s1 hx h oi qY=>by
  rw [hj] at qY
  cases qY
  unfold b9
  rw [hg]
  exact (Gp CF).2 ⟨s1,hx,Gq,h⟩
 intro n
 induction n with
 | zero=>
  intro listed s s1 _ _ hr hx h
  refine ⟨fun h0=>by rw [h0] at hr; simp at hr,fun i hi oi qY=>?_⟩
  by_cases e:i=j
  ·subst e; exact self 0 listed s s1 hx h oi qY
  ·have:=ready_mono hi e
   rw [h.1] at this
   simp at this
 | succ n ih=>
  intro listed s s1 gi iX hr hx h
  refine ⟨fun h0=>by rw [h0] at hr; simp at hr,fun i hi oi qY=>?_⟩
  by_cases e:i=j
  ·subst e; exact self (n+1) listed s s1 hx h oi qY
  ·have JY:=(mem_ready.1 hi).1
   have MT:=(mem_ready.1 hr).1
   have JZ:j∉dc i:=fun hm=>by
    have h1:=ju (gi.ready hA hi j hm)
    rw [MT] at h1
    cases h1
   obtain ⟨Jy,nu⟩:=iX i oi qY e JY JZ
   obtain ⟨AK,cg,vH⟩:=Oper.apart_spec Jy
   have En:oi.dst≠some d:=cg d Gm
   obtain ⟨_,cs,rfl,Gd⟩:=EV CF Gm QG hx
   have hG:=h.2 i (ready_mono hi e) oi qY
   have WJ:Inv (fun s'=>EX E f ops dc [] i s'∧fm E f ops dc [] K n ((listed.setIfInBounds j true).setIfInBounds i true) s'):=
    fun s t e h=>⟨ov Ma s t e h.1,gQ Ma hK _ _ s t e h.2⟩
   have H0:∀ y∈oi.op.operands,∀ off,bp E s.ae y≠.lp d off:=fun y hy off hv=>by
    obtain ⟨e',rfl,hv⟩:=QF hv
    exact nu e' (mz hy) off hv
   have core:∀ {pre:a8} {preB:cp} {G:List GO},gP E s oi (s.eY pre preB G) →
     (EX E f ops dc [] i ((pJ s d cs).eY pre preB G)∧fm E f ops dc [] K n ((listed.setIfInBounds j true).setIfInBounds i true) ((pJ s d cs).eY pre preB G)) →
     EX E f ops dc [] i (s.eY pre preB G)∧fm E f ops dc [] K (n+1) (listed.setIfInBounds i true) (s.eY pre preB G):=by
    intro pre preB G MS hk
    refine ⟨Gq,?_⟩
    obtain ⟨o1,o2⟩:=Gn MS
    have tj:∀ e' off,oi.dst≠some e'∨lk (s.eY pre preB G).ae e'=.lp d off→lk (s.eY pre preB G).ae e'=.lp d off→lk s.ae e'=.lp d off:=by
     intro e' off _ hv
     have hv:lk (pre++s.ae) e'=.lp d off:=hv
     rcases o1 with rfl | ⟨d',x,F1,hp,MU⟩
     ·exact hv
     ·have oM:∀ off,x≠.lp d off:=fun off c=>by
       rcases MU d off c with ⟨y,hy,fe,ho⟩ | ⟨_,h⟩
       ·exact H0 y hy fe ho
       ·exact En (by rw [F1,h])
      by_cases c2:d'=e'
      ·subst c2
       rcases hp with rfl | rfl
       ·simp only [List.cons_append,List.nil_append,ax] at hv; exact absurd hv (oM off)
       ·simp only [List.cons_append,List.nil_append,ax] at hv; exact absurd hv (oM off)
      ·rcases hp with rfl | rfl
       ·simp only [List.cons_append,List.nil_append] at hv; rwa [aI c2] at hv
       ·simp only [List.cons_append,List.nil_append] at hv
        rw [aI c2,jb] at hv
        cases hl:lk s.ae e' with
        | lp k fe=>
         rw [hl] at hv
         simp only at hv
         cases hb:Nat.beq k d' with
         | true=>rw [hb] at hv; cases hv
         | false=>rw [hb] at hv; exact hv
        | v a=>rw [hl] at hv; cases hv
        | none=>rw [hl] at hv; cases hv
    refine ih (listed.setIfInBounds i true) _ _ (gi.add hA hi) ?_ (ready_mono hr (Ne.symm e)) (Gd (s.eY pre preB G) rfl ?_) ?_
    ·intro k ok gm Yi UQ Yj
     have Yk:listed.getD k true=false:=by
      by_cases e':i=k
      ·subst e'; exact JY
      ·rw [getD_set_ne true e'] at UQ; exact UQ
     obtain ⟨q1,q2⟩:=iX k ok gm Yi Yk Yj
     exact ⟨q1,fun e' WK off hv=>q2 e' WK off (tj e' off (.inr hv) hv)⟩
    ·intro y hy v hv
     cases y with
     | tmp e'=>
      have F1:oi.dst≠some e':=fun c=>vH e' c (mz hy)
      have hv:lk s.ae e'=.v v:=hv
      show lk (pre++s.ae) e'=.v v
      rcases o1 with rfl | ⟨d',x,Qr,hp,_⟩
      ·exact hv
      ·have c2:d'≠e':=fun c=>F1 (by rw [Qr,c])
       rcases hp with rfl | rfl
       ·simp only [List.cons_append,List.nil_append]; rw [aI c2]; exact hv
       ·simp only [List.cons_append,List.nil_append]
        rw [aI c2,wx (fun off=>by rw [hv]; intro c; cases c)]; exact hv
     | const _=>exact hv
     | global _=>exact hv
     | func _=>exact hv
    ·rw [Array.setIfInBounds_comm _ _ e]
     exact gQ Ma hK _ _ _ _ (HZ cs MS En H0) hk.2
   have AX:∀ e'∈oi.looksAt ops,lk (pJ s d cs).ae e'=lk s.ae e':=fun e' WK=>by
    have c1:d≠e':=fun c=>AK d Gm (c ▸ WK)
    show lk (.put d (.lp d 0) :: .kill d :: s.ae) e'=_
    rw [aI c1,wx (nu e' WK)]
   have vC:∀ k off,(∃ y∈oi.op.operands,bp E (pJ s d cs).ae y=.lp k off)→cX (pJ s d cs).boxes k=cX s.boxes k:=by
    rintro k off ⟨y,hy,hv⟩
    rw [kh AX y hy] at hv
    have L5:d≠k:=fun c=>H0 y hy off (by rw [c]; exact hv)
    show cX ((d,cs) :: s.boxes) k=cX s.boxes k
    simp only [cX]
    cases hb:Nat.beq d k with
    | true=>exact absurd (Nat.eq_of_beq_eq_true hb) L5
    | false=>rfl
   rw [fE (fun s t e h=>⟨ov Ma s t e h.1,gQ Ma hK _ _ s t e h.2⟩)]
   rcases (fE WJ).1 hG with ⟨h1,h2⟩ | ⟨h1,h2⟩
   ·exact .inl ⟨by rw [← jU AX]; exact h1,EW (s:=pJ s d cs) (t:=s) rfl rfl vC (kh AX) h2 fun pre preB G hO hk=>core hO hk⟩
   ·refine .inr ⟨by rw [← jU AX]; exact h1,?_⟩
    obtain ⟨pre,preB,G,p1,p2,p3,p4⟩:=bM.put (s:=pJ s d cs) (t:=s) (al:=bV oi.op) (w:=false) rfl rfl oi.dst (.v fu)
    rw [p3] at h2
    have hO:gP E s oi (s.put oi.dst (.v fu)):=jE rfl rfl _
    rw [p4] at hO ⊢
    exact core hO h2
end
inductive DT where
 | done
 | take (j:Nat) (C:List Nat) (t:DT)
 | br (i:Nat) (re C:List Nat) (t:DT) (more:DT)
 | stop
 | al (j:Nat) (W:List Nat) (t:DT)
structure mC where
 dst:Option Tmp
 lo:List Tmp
 pr:List Nat
 n:Bool
 r:Bool
 a:Bool
def Gr (d:Nat) (s:a8):List Nat→Bool
 | []=>true
 | e :: l=>(match lk s e with
  | .lp k _=>!Nat.beq k d
  | _=>true)&&Gr d s l
def QH (E:Env) (f:FuncId) (o:Oper) (W:List Nat) (s:St):Bool:=match o.guard,o.dst with
 | none,some d=>!E.vf f d&&Gr d s.ae W
 | _,_=>false
def jv (x:Nat):List Nat→Bool
 | []=>false
 | y :: l=>Nat.beq x y || jv x l
def ow:List Edge→List Nat
 | []=>[]
 | e :: l=>bif Region.binds .any e then e.on :: ow l else ow l
def ki (ops:Array Oper) (o:Oper):mC:=⟨o.dst,o.looksAt ops,ow o.after.toList,sb o.op,QB o.op,bV o.op⟩
def AY {α:Type} (n:Nat) (K:Nat→α):α:=match n with
 | 0=>K 0
 | m+1=>K (Nat.succ m)
def zD {α:Type}:List Nat→(List Nat→α)→α
 | [],K=>K []
 | a :: l,K=>AY a fun a=>zD l fun l=>K (a :: l)
def QI {α:Type} (i:mC) (K:mC→α):α:=match i with
 | ⟨d,lo,pr,n,r,a⟩=>zD lo fun lo=>zD pr fun pr=>(match d with
  | none=>(fun (K:Option Tmp→α)=>K none)
  | some d=>(fun (K:Option Tmp→α)=>AY d fun d=>K (some d))) fun d=>(bif n then (fun (K:Bool→α)=>K true) else fun K=>K false) fun n=>
   (bif r then (fun (K:Bool→α)=>K true) else fun K=>K false) fun r=>(bif a then (fun (K:Bool→α)=>K true) else fun K=>K false) fun a=>K ⟨d,lo,pr,n,r,a⟩
def Gs {α:Type}:List mC→(List mC→α)→α
 | [],K=>K []
 | i :: l,K=>QI i fun i=>Gs l fun l=>K (i :: l)
def sJ (x y:mC):Bool:=
 (match x.dst with
 | some d=>!jv d y.lo&&(match y.dst with | some e=>!Nat.beq e d | none=>true)
 | none=>true) &&
 (match y.dst with
 | some d=>!jv d x.lo
 | none=>true)
def CH (j:Nat) (x:mC) (cf:List Nat):Nat→List mC→Bool
 | _,[]=>true
 | i,y :: l=>(Nat.beq i j || jv j y.pr || jv i cf || sJ x y)&&CH j x cf (i+1) l
def CI (I:List mC):Nat→List mC→List (List Nat)→Bool
 | _,[],_=>true
 | j,x :: l,c :: cs=>(!x.n || CH j x c 0 I)&&CI I (j+1) l cs
 | _,_,_=>false
def wy (dc:Nat→List Nat):Nat→List mC→Bool
 | _,[]=>true
 | i,x :: l=>(dc i).all (fun a=>x.pr.any fun e=>Nat.beq e a || jv a (dc e))&&wy dc (i+1) l
def mD (L:Nat):Nat→List mC→List Nat
 | _,[]=>[]
 | i,x :: l=>bif !L.testBit i&&x.pr.all (fun e=>L.testBit e) then i :: mD L (i+1) l else mD L (i+1) l
def ox (x y:mC):Bool:=y.a || (x.r&&!y.n)
def oz (dc:Nat→List Nat) (L k:Nat) (x:mC):Nat→List mC→Bool
 | _,[]=>true
 | i,y :: l=>(L.testBit i || !ox x y || jv k (dc i))&&oz dc L k x (i+1) l
def uR (I:List mC) (dc:Nat→List Nat) (L:Nat) (C C':List Nat):Bool:=C.all fun k=>jv k C' || match nth I k with
 | none=>false
 | some x=>oz dc L k x 0 I
def Pe (I:List mC) (dc:Nat→List Nat) (C re:List Nat) (i:Nat) (y:mC):Bool:=C.all fun k=>jv k re || match nth I k with
 | none=>false
 | some x=>!ox x y || jv k (dc i)
def Gt (dc:Nat→List Nat) (L:Nat) (W:List Nat) (j:Nat) (x:mC):Nat→List mC→Bool
 | _,[]=>true
 | i,y :: l=>(Nat.beq i j || L.testBit i || jv j (dc i) || (sJ x y&&y.lo.all fun e=>jv e W))&&Gt dc L W j x (i+1) l
def Gu (I:List mC) (C:List Nat):Bool:=C.all fun k=>match nth I k with
 | some x=>x.n
 | none=>false
def kI (I:List mC) (N:Nat) (dc:Nat→List Nat) (cf:List (List Nat)):DT→Nat→List Nat→Nat→Option (List Nat)→Bool
 | .done,_,_,L,none=>Nat.beq L N
 | .take j C' t,n+1,C,L,none=>match nth I j,nth cf j with
  | some x,some c=>match x.dst with
   | none=>false
   | some d=>x.n&&!jv d x.lo&&(C.all fun k=>match nth I k with
     | none=>false
     | some y=>!jv d y.lo&&(match y.dst with | some e=>!Nat.beq e d | none=>true)) &&
    c.all (fun i=>L.testBit i)&&!L.testBit j&&x.pr.all (fun e=>L.testBit e)&&Gu I C' &&
    AY (L ||| 2 ^ j) fun L'=>uR I dc L' (j :: C) C'&&kI I N dc cf t n C' L' none
  | _,_=>false
 | .br i re C' t more,n+1,C,L,left=>match nth I i with
  | none=>false
  | some y=>(match left with
   | none=>fun (K:List Nat→Bool)=>zD (mD L 0 I) K
   | some l=>fun K=>K l) fun l=>
    Pe I dc C re i y&&Gu I C'&&jv i l&&(AY (L ||| 2 ^ i) fun L'=>uR I dc L' C C'&&kI I N dc cf t n C' L' none) &&
     kI I N dc cf more (n+1) C L (some (l.filter fun k=>!Nat.beq k i))
 | .stop,_,_,_,some l=>l.isEmpty
 | .al j W t,n+1,C,L,none=>match nth I j with
  | some x=>match x.dst with
   | none=>false
   | some _=>C.isEmpty&&x.a&&!L.testBit j&&x.pr.all (fun e=>L.testBit e)&&Gt dc L W j x 0 I&&AY (L ||| 2 ^ j) fun L'=>kI I N dc cf t n [] L' none
  | none=>false
 | _,_,_,_,_=>false
def zF (E:Env) (f:FuncId) (ops:List Oper):List Nat→St→Prop
 | [],_=>True
 | k :: l,s=>(match nth ops k with
  | some ok=>EP E f ops ok s
  | none=>True)∧zF E f ops l s
def se (E:Env) (f:FuncId) (ops:List Oper):DT→(St→Prop)→St→Prop
 | .done,K,s=>K s
 | .take j _ t,K,s=>match nth ops j with
  | some oj=>b9 E f ops oj (se E f ops t K) s
  | none=>False
 | .br i re _ t more,K,s=>(match nth ops i with
  | some oi=>b9 E f ops oi (fun s'=>zF E f ops re s'∧se E f ops t K s') s
  | none=>False)∧se E f ops more K s
 | .stop,_,_=>True
 | .al j W t,K,s=>match nth ops j with
  | some oj=>QH E f oj W s=true∧b9 E f ops oj (se E f ops t K) s
  | none=>False
def J1 (l:List (List Nat)) (i:Nat):List Nat:=match nth l i with
 | some a=>a
 | none=>[]
section
variable {E:Env} {s t:St} {f:FuncId} {ops:Array Oper} {K:St→Prop} {dc:Nat→List Nat}
theorem eD {x:Nat}:∀ {l:List Nat},jv x l=true↔x∈l
 | []=>by simp [jv]
 | y :: l=>by simp [jv,eD (l:=l)]
theorem mE {α:Type} (n:Nat) (K:Nat→α):AY n K=K n:=by cases n <;> rfl
theorem wz {α:Type}:∀ (l:List Nat) (K:List Nat→α),zD l K=K l
 | [],_=>rfl
 | a :: l,K=>by simp only [zD,mE]; rw [wz]
theorem MV {α:Type} (i:mC) (K:mC→α):QI i K=K i:=by
 obtain ⟨d,lo,pr,n,r,a⟩:=i
 cases d <;> cases n <;> cases r <;> cases a <;> simp [QI,wz,mE]
theorem CJ {α:Type}:∀ (l:List mC) (K:List mC→α),Gs l K=K l
 | [],_=>rfl
 | a :: l,K=>by simp only [Gs,MV]; rw [CJ]
def kj (ops:Array Oper):List mC:=ops.toList.map (ki ops)
theorem qZ {k:Nat} {x:mC} (h:nth (kj ops) k=some x):∃ o,ops[k]?=some o∧x=ki ops o:=by
 rw [aG,kj,List.getElem?_map,Array.getElem?_toList] at h
 cases ho:ops[k]? with
 | none=>rw [ho] at h; cases h
 | some o=>rw [ho] at h; exact ⟨o,rfl,by simpa using h.symm⟩
theorem iK {e:Nat}:∀ {l:List Edge},e∈ow l↔∃ ed∈l,Region.binds .any ed=true∧ed.on=e
 | []=>by simp [ow]
 | x :: l=>by
  unfold ow
  cases hb:Region.binds .any x with
  | true=>
   simp only [cond_true,List.mem_cons,iK (l:=l),exists_eq_or_imp,hb,true_and]
   constructor
   ·rintro (h | h)
    ·exact .inl h.symm
    ·exact .inr h
   ·rintro (h | h)
    ·exact .inl h.symm
    ·exact .inr h
  | false=>simp only [cond_false,List.mem_cons,iK (l:=l),exists_eq_or_imp,hb,false_and,false_or,Bool.false_eq_true]
theorem zG {x y:Oper} (h:sJ (ki ops x) (ki ops y)=true):x.apart ops y=true:=by
 have hm:∀ (d:Nat) (l:List Nat),jv d l=false→l.contains d=false:=fun d l h=>by
  cases hc:l.contains d with
  | false=>rfl
  | true=>rw [eD.2 (by simpa using hc)] at h; cases h
 unfold sJ at h
 unfold Oper.apart
 simp only [ki,Bool.and_eq_true] at h ⊢
 refine ⟨?_,?_⟩
 ·cases hx:x.dst with
  | none=>rfl
  | some d=>
   rw [hx] at h
   simp only [Bool.and_eq_true,Bool.not_eq_true'] at h ⊢
   refine ⟨hm _ _ h.1.1,?_⟩
   have h2:=h.1.2
   cases hy:y.dst with
   | none=>rfl
   | some e=>
    rw [hy] at h2
    simp only [Bool.not_eq_true'] at h2
    have:e≠d:=fun k=>by rw [k,qu] at h2; cases h2
    simpa using this
 ·cases hy:y.dst with
  | none=>rfl
  | some d=>
   rw [hy] at h
   simp only [Bool.not_eq_true'] at h ⊢
   exact hm _ _ h.2
def CK (ops:Array Oper) (L:Nat) (listed:Array Bool):Prop:=listed.size=ops.size∧∀ i,i < ops.size→listed[i]?=some (L.testBit i)
theorem CK.add {L:Nat} {listed:Array Bool} (h:CK ops L listed) (j:Nat):CK ops (L ||| 2 ^ j) (listed.setIfInBounds j true):=by
 refine ⟨by simp [h.1],fun i hi=>?_⟩
 rw [Nat.testBit_or,Nat.testBit_two_pow]
 by_cases e:j=i
 ·subst e
  rw [Array.getElem?_setIfInBounds_self_of_lt (by rw [h.1]; exact hi)]
  simp
 ·rw [Array.getElem?_setIfInBounds_ne e,h.2 i hi]
  simp [e]
theorem CK.CL {L:Nat} {listed:Array Bool} (h:CK ops L listed) {i:Nat} (hi:i < ops.size) (b:Bool):listed.getD i b=L.testBit i:=by
 rw [Array.getD_eq_getD_getElem?,h.2 i hi]; rfl
theorem pK {L:Nat} {listed:Array Bool} (h:CK ops L listed) {j:Nat} {o:Oper} (ho:ops[j]?=some o) (h1:L.testBit j=false) (h2:((ki ops o).pr.all fun e=>L.testBit e)=true)
  (bK:∀ e∈o.after,Region.binds .any e=true→e.on < ops.size):j∈Region.ready .any ops listed:=by
 have hj:j < ops.size:=(Array.getElem?_eq_some_iff.1 ho).1
 refine mem_ready.2 ⟨by rw [h.CL hj]; exact h1,o,ho,fun e he hb=>?_⟩
 rw [h.CL (bK e he hb)]
 exact List.all_eq_true.1 h2 e.on (iK.2 ⟨e,by simpa using he,hb,rfl⟩)
def QJ (n:Nat) (I:List mC):Bool:=I.all fun x=>x.pr.all fun e=>Nat.blt e n
theorem gA {k:Nat} {o:Oper} (h:ops[k]?=some o):nth (kj ops) k=some (ki ops o):=by
 rw [aG,kj,List.getElem?_map,Array.getElem?_toList,h]; rfl
theorem kl {k:Nat} {o:Oper} (h:ops[k]?=some o):(kj ops)[k]?=some (ki ops o):=by
 rw [← aG]; exact gA h
theorem oA (h:QJ ops.size (kj ops)=true) {k:Nat} {o:Oper} (ho:ops[k]?=some o):∀ e∈o.after,Region.binds .any e=true→e.on < ops.size:=fun e he hb=>by
 have h1:=List.all_eq_true.1 h (ki ops o) (List.mem_of_getElem? (kl ho))
 have h2:=List.all_eq_true.1 h1 e.on (iK.2 ⟨e,by simpa using he,hb,rfl⟩)
 exact Nat.le_of_ble_eq_true h2
theorem wA {j:Nat} {x:mC} {c:List Nat}:∀ {l:List mC} {i:Nat},CH j x c i l=true→∀ k y,l[k]?=some y→(Nat.beq (i+k) j || jv j y.pr || jv (i+k) c || sJ x y)=true
 | [],_,_,k,y,hk=>by simp at hk
 | z :: l,i,h,k,y,hk=>by
  unfold CH at h
  rw [Bool.and_eq_true] at h
  cases k with
  | zero=>simp at hk; subst hk; exact h.1
  | succ k=>
   have:=wA h.2 k y (by simpa using hk)
   rw [show i+1+k=i+(k+1) by omega] at this
   exact this
theorem wB {I:List mC}:∀ {l:List mC} {j:Nat} {cs:List (List Nat)},CI I j l cs=true→∀ k x c,l[k]?=some x→cs[k]?=some c→x.n=true→CH (j+k) x c 0 I=true
 | [],_,_,_,k,x,c,hk,_,_=>by simp at hk
 | z :: l,j,[],_,k,x,c,_,hc,_=>by simp at hc
 | z :: l,j,d :: cs,h,k,x,c,hk,hc,hn=>by
  unfold CI at h
  rw [Bool.and_eq_true] at h
  cases k with
  | zero=>
   simp at hk hc
   subst hk hc
   have:=h.1
   rw [hn] at this
   simpa using this
  | succ k=>
   have:=wB h.2 k x c (by simpa using hk) (by simpa using hc) hn
   rw [show j+1+k=j+(k+1) by omega] at this
   exact this
theorem tL:∀ {l:List mC} {i:Nat},wy dc i l=true→∀ k x,l[k]?=some x→∀ a∈dc (i+k),∃ e∈x.pr,e=a∨a∈dc e
 | [],_,_,k,x,hk=>by simp at hk
 | z :: l,i,h,k,x,hk=>by
  unfold wy at h
  rw [Bool.and_eq_true] at h
  cases k with
  | zero=>
   simp at hk
   subst hk
   intro a ha
   have h1:=List.all_eq_true.1 h.1 a ha
   obtain ⟨e,he,h2⟩:=List.any_eq_true.1 h1
   rw [Bool.or_eq_true] at h2
   refine ⟨e,he,?_⟩
   rcases h2 with h2 | h2
   ·exact .inl (Nat.eq_of_beq_eq_true h2)
   ·exact .inr (eD.1 h2)
  | succ k=>
   have:=tL h.2 k x (by simpa using hk)
   rw [show i+1+k=i+(k+1) by omega] at this
   exact this
theorem EZ (h:wy dc 0 (kj ops)=true):zC ops dc:=fun i oi a hi ha=>by
 have h1:=tL h i _ (kl hi) a (by rw [Nat.zero_add]; exact ha)
 obtain ⟨e,he,h2⟩:=h1
 obtain ⟨ed,q1,q2,rfl⟩:=iK.1 he
 exact ⟨ed,by simpa using q1,q2,h2⟩
theorem nJ {L:Nat}:∀ {l:List mC} {i k:Nat},k∈mD L i l↔∃ j x,k=i+j∧l[j]?=some x∧L.testBit k=false∧(x.pr.all fun e=>L.testBit e)=true
 | [],i,k=>by simp [mD]
 | z :: l,i,k=>by
  have ih:=nJ (L:=L) (l:=l) (i:=i+1) (k:=k)
  have rest:(∃ j x,k=i+1+j∧l[j]?=some x∧L.testBit k=false∧(x.pr.all fun e=>L.testBit e)=true)↔∃ j x,k=i+(j+1)∧(z :: l)[j+1]?=some x∧L.testBit k=false∧(x.pr.all fun e=>L.testBit e)=true:=by
   constructor
   ·rintro ⟨j,x,h1,h2⟩; exact ⟨j,x,by omega,by simpa using h2⟩
   ·rintro ⟨j,x,h1,h2⟩; exact ⟨j,x,by omega,by simpa using h2⟩
  unfold mD
  cases hc:(!L.testBit i&&z.pr.all fun e=>L.testBit e) with
  | true=>
   simp only [cond_true,List.mem_cons,ih,rest]
   rw [Bool.and_eq_true,Bool.not_eq_true'] at hc
   constructor
   ·rintro (rfl | ⟨j,x,h⟩)
    ·exact ⟨0,z,rfl,rfl,hc⟩
    ·exact ⟨j+1,x,h⟩
   ·rintro ⟨j,x,h1,h2⟩
    cases j with
    | zero=>exact .inl h1
    | succ j=>exact .inr ⟨j,x,h1,h2⟩
  | false=>
   simp only [cond_false,ih,rest]
   constructor
   ·rintro ⟨j,x,h⟩; exact ⟨j+1,x,h⟩
   ·rintro ⟨j,x,h1,h2,h3,h4⟩
    cases j with
    | zero=>
     simp at h2 h1
     subst h1 h2
     rw [h3,h4] at hc
     cases hc
    | succ j=>exact ⟨j,x,h1,h2,h3,h4⟩
theorem nK {L k:Nat} {x:mC}:∀ {l:List mC} {i:Nat},oz dc L k x i l=true→∀ j y,l[j]?=some y→L.testBit (i+j)=false→ox x y=true→k∈dc (i+j)
 | [],_,_,j,y,hj=>by simp at hj
 | z :: l,i,h,j,y,hj=>by
  unfold oz at h
  rw [Bool.and_eq_true] at h
  cases j with
  | zero=>
   simp at hj
   subst hj
   intro h1 h2
   have h3:=h.1
   rw [Nat.add_zero] at h1
   rw [h1,h2] at h3
   exact eD.1 (by simpa using h3)
  | succ j=>
   have:=nK h.2 j y (by simpa using hj)
   rw [show i+1+j=i+(j+1) by omega] at this
   exact this
theorem tM {L:Nat} {listed:Array Bool} (hM:CK ops L listed) {C C':List Nat} (h:uR (kj ops) dc L C C'=true):∀ k∈C,k∈C'∨∀ i ok oi,ops[k]?=some ok→ops[i]?=some oi→listed.getD i true=false→iZ ok oi=true→k∈dc i:=fun k hk=>by
 have h1:=List.all_eq_true.1 h k hk
 rw [Bool.or_eq_true] at h1
 rcases h1 with h1 | h1
 ·exact .inl (eD.1 h1)
 ·refine .inr fun i ok oi q1 q2 q3 q4=>?_
  rw [gA q1] at h1
  have hi:i < ops.size:=(Array.getElem?_eq_some_iff.1 q2).1
  have:=nK h1 i _ (kl q2) (by rw [Nat.zero_add,← hM.CL hi]; exact q3) q4
  rw [Nat.zero_add] at this
  exact this
theorem zH {C:List Nat} (h:Gu (kj ops) C=true):NC ops C:=fun k hk ok cS=>by
 have:=List.all_eq_true.1 h k hk
 rw [gA cS] at this
 exact this
theorem wC {L j:Nat} {x:mC} {W:List Nat}:∀ {l:List mC} {i:Nat},Gt dc L W j x i l=true→∀ k y,l[k]?=some y→(Nat.beq (i+k) j || L.testBit (i+k) || jv j (dc (i+k)) || (sJ x y&&y.lo.all fun e=>jv e W))=true
 | [],_,_,k,y,hk=>by simp at hk
 | z :: l,i,h,k,y,hk=>by
  unfold Gt at h
  rw [Bool.and_eq_true] at h
  cases k with
  | zero=>simp at hk; subst hk; exact h.1
  | succ k=>
   have:=wC h.2 k y (by simpa using hk)
   rw [show i+1+k=i+(k+1) by omega] at this
   exact this
theorem wD {d:Nat} {s:a8}:∀ {l:List Nat},Gr d s l=true→∀ e∈l,∀ off,lk s e≠.lp d off
 | [],_,e,he,_=>by cases he
 | a :: l,h,e,he,off=>by
  unfold Gr at h
  rw [Bool.and_eq_true] at h
  rcases List.mem_cons.1 he with rfl | he
  ·intro hv
   have h1:=h.1
   rw [hv] at h1
   simp only [qu] at h1
   cases h1
  ·exact wD h.2 e he off
theorem nL {cf:List (List Nat)} (hA:zC ops dc) (hP:QJ ops.size (kj ops)=true) (hF:CI (kj ops) 0 (kj ops) cf=true) (hK:Inv K):∀ (T:DT) (n:Nat) (C:List Nat) (listed:Array Bool) (L:Nat),NC ops C→mB dc listed→CK ops L listed →
  (kI (kj ops) (2 ^ ops.size - 1) dc cf T n C L none=true→∀ s,se E f ops.toList T K s→fm E f ops dc C K n listed s) ∧
  (∀ m l,n=m+1→kI (kj ops) (2 ^ ops.size - 1) dc cf T n C L (some l)=true→∀ s,se E f ops.toList T K s→∀ i∈l,i∈Region.ready .any ops listed→∀ oi,ops[i]?=some oi →
   b9 E f ops.toList oi (fun s'=>EX E f ops dc C i s'∧fm E f ops dc C K m (listed.setIfInBounds i true) s') s)
 | .done,n,C,listed,L,hC,gi,hM=>by
  refine ⟨fun h s hs=>?_,fun m l _ h=>by simp [kI] at h⟩
  have hL:L=2 ^ ops.size - 1:=Nat.eq_of_beq_eq_true (by simpa only [kI] using h)
  have hr:Region.ready .any ops listed=[]:=by
   apply List.eq_nil_iff_forall_not_mem.2
   intro j hj
   obtain ⟨h1,o,ho,_⟩:=mem_ready.1 hj
   have bK:j < ops.size:=(Array.getElem?_eq_some_iff.1 ho).1
   rw [hM.CL bK,hL,Nat.testBit_two_pow_sub_one] at h1
   simp [bK] at h1
  cases n with
  | zero=>exact ⟨hr,hs⟩
  | succ n=>exact ⟨fun _=>hs,fun i hi=>by rw [hr] at hi; simp at hi⟩
 | .stop,n,C,listed,L,hC,gi,hM=>by
  refine ⟨fun h=>by cases n <;> simp [kI] at h,fun m l e h s _ i hi=>?_⟩
  subst e
  have:l=[]:=by simpa [kI] using h
  rw [this] at hi
  simp at hi
 | .al j W T,0,C,listed,L,hC,gi,hM=>⟨fun h=>by simp [kI] at h,fun m l e=>by cases e⟩
 | .al j W T,n+1,C,listed,L,hC,gi,hM=>by
  refine ⟨fun h s hs=>?_,fun m l _ h=>by simp [kI] at h⟩
  unfold kI at h
  split at h
  ·rename_i x hx
   obtain ⟨oj,hj,rfl⟩:=qZ hx
   split at h
   ·cases h
   ·rename_i d hd
    simp only [mE,Bool.and_eq_true] at h
    obtain ⟨⟨⟨⟨⟨Yl,CF⟩,hbit⟩,UR⟩,jI⟩,hT⟩:=h
    have Yl:C=[]:=by simpa using Yl
    subst Yl
    have CF:bV oj.op=true:=CF
    have hd:oj.dst=some d:=hd
    have wE:j∈Region.ready .any ops listed:=pK hM hj (by simpa using hbit) UR (oA hP hj)
    obtain ⟨ih,_⟩:=nL hA hP hF hK T n [] (listed.setIfInBounds j true) (L ||| 2 ^ j) (fun k hk=>by cases hk) (gi.add hA wE) (hM.add j)
    unfold se at hs
    rw [aG,Array.getElem?_toList,hj] at hs
    simp only at hs
    obtain ⟨cS,hs⟩:=hs
    unfold QH at cS
    split at cS
    ·rename_i _ d' hg F1
     rw [hd] at F1
     cases F1
     rw [Bool.and_eq_true] at cS
     have QG:E.vf f d=false:=by simpa using cS.1
     have IP:b9 E f ops.toList oj (fm E f ops dc [] K n (listed.setIfInBounds j true)) s:=ca hs fun s' h'=>ih hT s' h'
     unfold b9 at IP
     rw [hg] at IP
     obtain ⟨s1,q1,q2⟩:=(Gp CF).1 IP
     refine J0 hA hK hj hg hd CF QG n listed s s1 gi (fun i oi hi cg JY nu=>?_) wE q1 q2
     have gj:=wC jI i _ (kl hi)
     rw [Nat.zero_add] at gj
     simp only [Bool.or_eq_true] at gj
     have QK:i < ops.size:=(Array.getElem?_eq_some_iff.1 hi).1
     rcases gj with ((h1 | h1) | h1) | h1
     ·exact absurd (Nat.eq_of_beq_eq_true h1) cg
     ·rw [hM.CL QK,h1] at JY; cases JY
     ·exact absurd (eD.1 h1) nu
     ·rw [Bool.and_eq_true] at h1
      exact ⟨zG h1.1,fun e he off=>wD cS.2 e (eD.1 (List.all_eq_true.1 h1.2 e he)) off⟩
    ·cases cS
  ·cases h
 | .take j C' T,0,C,listed,L,hC,gi,hM=>⟨fun h=>by simp [kI] at h,fun m l e=>by cases e⟩
 | .take j C' T,n+1,C,listed,L,hC,gi,hM=>by
  refine ⟨fun h s hs=>?_,fun m l _ h=>by simp [kI] at h⟩
  unfold kI at h
  split at h
  ·rename_i x c hx hc
   obtain ⟨oj,hj,rfl⟩:=qZ hx
   split at h
   ·cases h
   ·rename_i d hd
    simp only [mE,Bool.and_eq_true] at h
    obtain ⟨⟨⟨⟨⟨⟨⟨hN,CD⟩,Yh⟩,hcf⟩,hbit⟩,UR⟩,nI⟩,QL,hT⟩:=h
    have hN:sb oj.op=true:=hN
    have hd:oj.dst=some d:=hd
    have wE:j∈Region.ready .any ops listed:=pK hM hj (by simpa using hbit) UR (oA hP hj)
    have L6:∀ {d:Nat} {l:List Nat},(!jv d l)=true→d∉l:=fun h hm=>by rw [eD.2 hm] at h; cases h
    have QM:d∉oj.looksAt ops:=L6 CD
    have Ym:∀ k∈C,∀ ok,ops[k]?=some ok→d∉ok.looksAt ops∧ok.dst≠some d:=fun k hk ok cS=>by
     have:=List.all_eq_true.1 Yh k hk
     rw [gA cS] at this
     simp only [Bool.and_eq_true] at this
     refine ⟨L6 this.1,fun e=>?_⟩
     have h2:=this.2
     simp only [ki,e,qu] at h2
     cases h2
    have Ma:NC ops (j :: C):=fun k hk ok ho=>by
     rcases List.mem_cons.1 hk with rfl | hk
     ·rw [hj] at ho; cases ho; exact hN
     ·exact hC k hk ok ho
    have Yn:=gi.add hA wE
    obtain ⟨ih,_⟩:=nL hA hP hF hK T n C' (listed.setIfInBounds j true) (L ||| 2 ^ j) (zH nI) Yn (hM.add j)
    unfold se at hs
    rw [aG,Array.getElem?_toList,hj] at hs
    simp only at hs
    have IP:b9 E f ops.toList oj (fm E f ops dc (j :: C) K n (listed.setIfInBounds j true)) s:=ca hs fun s' h'=>mA n _ _ (tM (hM.add j) QL) (ih hT s' h')
    obtain ⟨x,oM,hk⟩:=wq hN (gQ Ma hK _ _) IP
    rw [hd] at hk
    refine EY hA hC hK hj hN hd QM Ym n listed s x gi (fun i oi hi cg JY nu=>?_) wE oM hk
    have jI:=wB hF j _ c (kl hj) (by rw [← aG]; exact hc) hN
    have gj:=wA jI i _ (kl hi)
    rw [Nat.zero_add,Nat.zero_add] at gj
    simp only [Bool.or_eq_true] at gj
    have QK:i < ops.size:=(Array.getElem?_eq_some_iff.1 hi).1
    rcases gj with ((h1 | h1) | h1) | h1
    ·exact absurd (Nat.eq_of_beq_eq_true h1) cg
    ·obtain ⟨e,q1,q2,q3⟩:=iK.1 (eD.1 h1)
     exact absurd q3 (nu e (by simpa using q1) q2)
    ·have:=List.all_eq_true.1 hcf i (eD.1 h1)
     rw [hM.CL QK,this] at JY
     cases JY
    ·exact zG h1
  ·cases h
 | .br i re C' T more,0,C,listed,L,hC,gi,hM=>⟨fun h=>by simp [kI] at h,fun m l e=>by cases e⟩
 | .br i re C' T more,n+1,C,listed,L,hC,gi,hM=>by
  have main:∀ left l,(match left with | none=>mD L 0 (kj ops) | some l=>l)=l→kI (kj ops) (2 ^ ops.size - 1) dc cf (.br i re C' T more) (n+1) C L left=true→∀ s,se E f ops.toList (.br i re C' T more) K s→i∈l∧∀ k∈l,k∈Region.ready .any ops listed→∀ ok,ops[k]?=some ok →
    b9 E f ops.toList ok (fun s'=>EX E f ops dc C k s'∧fm E f ops dc C K n (listed.setIfInBounds k true) s') s:=by
   intro left l hl h s hs
   unfold kI at h
   split at h
   ·cases h
   ·rename_i y hy
    obtain ⟨oi,qY,rfl⟩:=qZ hy
    have h:(Pe (kj ops) dc C re i (ki ops oi)&&Gu (kj ops) C'&&jv i l&&(uR (kj ops) dc (L ||| 2 ^ i) C C'&&kI (kj ops) (2 ^ ops.size - 1) dc cf T n C' (L ||| 2 ^ i) none) &&
     kI (kj ops) (2 ^ ops.size - 1) dc cf more (n+1) C L (some (l.filter fun k=>!Nat.beq k i)))=true:=by
     cases left with
     | none=>simp only at hl; subst hl; simp only [wz,mE] at h; exact h
     | some l'=>simp only at hl; subst hl; simp only [mE] at h; exact h
    simp only [Bool.and_eq_true] at h
    obtain ⟨⟨⟨⟨Qb,nI⟩,lQ⟩,QL,hT⟩,hmore⟩:=h
    unfold se at hs
    refine ⟨eD.1 lQ,fun k hk WL ok cS=>?_⟩
    by_cases e:k=i
    ·subst e
     rw [qY] at cS
     cases cS
     obtain ⟨ih,_⟩:=nL hA hP hF hK T n C' (listed.setIfInBounds k true) (L ||| 2 ^ k) (zH nI) (gi.add hA WL) (hM.add k)
     have h1:=hs.1
     rw [aG,Array.getElem?_toList,qY] at h1
     refine ca h1 fun s' h'=>⟨fun c hc oc Pd q1 q2 q3 q4=>?_,mA n _ _ (tM (hM.add k) QL) (ih hT s' h'.2)⟩
     rw [qY] at q2
     cases q2
     have AP:=List.all_eq_true.1 Qb c hc
     rw [gA q1] at AP
     have q3':ox (ki ops oc) (ki ops oi)=true:=q3
     simp only [q3',Bool.not_true,Bool.false_or,Bool.or_eq_true] at AP
     rcases AP with AP | AP
     ·have hm:c∈re:=eD.1 AP
      have:∀ (re:List Nat),c∈re→zF E f ops.toList re s'→EP E f ops.toList oc s':=by
       intro re
       induction re with
       | nil=>intro hm; simp at hm
       | cons a re ihr=>
        intro hm ha
        rcases List.mem_cons.1 hm with rfl | hm
        ·have:=ha.1
         rw [aG,Array.getElem?_toList,q1] at this
         exact this
        ·exact ihr hm ha.2
      exact this re hm h'.1
     ·exact absurd (eD.1 AP) q4
    ·obtain ⟨_,ih⟩:=nL hA hP hF hK more (n+1) C listed L hC gi hM
     refine ih n _ rfl hmore s hs.2 k ?_ WL ok cS
     rw [List.mem_filter]
     exact ⟨hk,by rw [mj e]; rfl⟩
  refine ⟨fun h s hs=>?_,fun m l e h s hs k hk WL ok cS=>?_⟩
  ·obtain ⟨m1,m2⟩:=main none _ rfl h s hs
   have back:∀ k,k∈mD L 0 (kj ops)→k∈Region.ready .any ops listed:=fun k hk=>by
    obtain ⟨j,x,q1,q2,q3,q4⟩:=nJ.1 hk
    rw [Nat.zero_add] at q1
    subst q1
    rw [← aG] at q2
    obtain ⟨o,ho,rfl⟩:=qZ q2
    exact pK hM ho q3 q4 (oA hP ho)
   have US:∀ k,k∈Region.ready .any ops listed→k∈mD L 0 (kj ops):=fun k hk=>by
    obtain ⟨h1,o,ho,nI⟩:=mem_ready.1 hk
    have bK:k < ops.size:=(Array.getElem?_eq_some_iff.1 ho).1
    refine nJ.2 ⟨k,ki ops o,by omega,kl ho,by rw [← hM.CL bK]; exact h1,List.all_eq_true.2 fun e he=>?_⟩
    obtain ⟨ed,q1,q2,rfl⟩:=iK.1 he
    have h2:=nI ed (by simpa using q1) q2
    rw [hM.CL (oA hP ho ed (by simpa using q1) q2)] at h2
    exact h2
   refine ⟨fun h0=>?_,fun k hk ok cS=>m2 k (US k hk) hk ok cS⟩
   have:=back i m1
   rw [h0] at this
   simp at this
  ·cases e
   exact (main (some l) l rfl h s hs).2 k hk WL ok cS
theorem wF {R:af} {w:World} {β:Nat→Nat} {F:Fence} {Qc:Exit→Act→World→Prop} {C:List Nat} (hQ:∀ a' w',nE E R w β s K a' w'→Qc .normal a' w') :
  ∀ (n:Nat) (listed:Array Bool) (R1:af) (w1:World) (β1:Nat→Nat) (s1:St) (a1:Act),aQ E R1 w1 β1 s1 a1→Step R w β s.boxes R1 w1 β1 s1.boxes→s1.ro=s.ro→bL R1 s1.ro F →
   fm E f ops dc C K n listed s1→wpAnyIn F 0 E.P .any ops Qc n listed a1 w1
 | 0,listed,R1,w1,β1,s1,a1,hr,gy,aU,_,ha=>⟨ha.1,hQ _ _ ⟨s1,R1,β1,ha.2,hr,gy,aU⟩⟩
 | n+1,listed,R1,w1,β1,s1,a1,hr,gy,aU,hf,ha=>by
  refine ⟨fun h0=>hQ _ _ ⟨s1,R1,β1,ha.1 h0,hr,gy,aU⟩,fun i hi=>?_⟩
  obtain ⟨_,o,ho,_⟩:=mem_ready.1 hi
  unfold wpOpIn
  simp only [ho]
  refine qT hr hf (ha.2 i hi o ho) _ ?_
  rintro a' w' ⟨s',R',β',q1,q2,q3,q4⟩
  exact wF hQ n _ R' w' β' s' a' q2 (gy.trans q3) (q4.trans aU) (by rw [q4]; exact hf.mono q3.ext) q1.2
theorem eZ {K':St→Prop} (hK:∀ s,K s→K' s):∀ (T:DT) (s:St),se E f ops.toList T K s→se E f ops.toList T K' s
 | .done,s,h=>hK s h
 | .stop,_,_=>trivial
 | .take j C T,s,h=>by
  unfold se at h ⊢
  split
  ·rename_i oj hj
   rw [hj] at h
   exact ca h fun s' h'=>eZ hK T s' h'
  ·rename_i hj
   rw [hj] at h
   exact h
 | .al j W T,s,h=>by
  unfold se at h ⊢
  split
  ·rename_i oj hj
   rw [hj] at h
   exact ⟨h.1,ca h.2 fun s' h'=>eZ hK T s' h'⟩
  ·rename_i hj
   rw [hj] at h
   exact h
 | .br i re C T more,s,h=>by
  unfold se at h ⊢
  refine ⟨?_,eZ hK more s h.2⟩
  have h:=h.1
  split
  ·rename_i oj hj
   rw [hj] at h
   exact ca h fun s' h'=>⟨h'.1,eZ hK T s' h'.2⟩
  ·rename_i hj
   rw [hj] at h
   exact h
structure ak where
 dc:List (List Nat)
 cf:List (List Nat)
 T:DT
def E0 (ops:Array Oper) (p:ak):Bool:=Gs (ops.toList.map (ki ops)) fun I=>
 AY ops.size fun n=>AY (2 ^ n - 1) fun N=>wy (J1 p.dc) 0 I&&QJ n I&&CI I 0 I p.cf&&kI I N (J1 p.dc) p.cf p.T n [] 0 none
theorem aQ.drawn {R:af} {w:World} {β:Nat→Nat} {a:Act} (h:aQ E R w β s a):aQ E R { w with drawn:=w.drawn+1 } β s a∧Step R w β s.boxes R { w with drawn:=w.drawn+1 } β s.boxes:=by
 have e:Ext R w R { w with drawn:=w.drawn+1 }:=⟨fun _ _ h=>h,fun _ _ _=>rfl,fun _ ro h=>⟨ro,h,bQ.refl ro⟩,dU.refl w⟩
 refine ⟨⟨⟨h.g.len,fun id go ro h1 h2=>(h.g.obj id go ro h1 h2).mono e (fun _ _=>rfl) (fun _ _ _ h=>h),h.g.inj,h.g.wf,fun g cs hg=>(h.g.ck g cs hg).mono e,Nat.le_succ_of_le h.g.lo⟩,?_,h.t.mono e,h.n,h.d⟩,?_⟩
 ·exact h.b.bY e (fun _ _ _=>rfl) (fun _ _ _ _ h=>h) (fun _ _ _ h=>h)
 ·exact ⟨e,rfl,rfl,rfl,Nat.le_refl _,fun _ _ _=>rfl,fun _ _ h=>h,fun _ _ h _ _=>h⟩
theorem eH.draw {id:Nat} {p:ak} {Q:Exit→St→Prop} (cS:E0 ops p=true) (h:se E f ops.toList p.T (Q .normal) s):eH E (.region id ops true) Q s:=fun R w β a F hr hf=>by
 simp only [E0,CJ,mE,Bool.and_eq_true] at cS
 obtain ⟨⟨⟨hA,hP⟩,hF⟩,hT⟩:=cS
 refine wpIn_region_any E.mixed ?_
 obtain ⟨q1,q2⟩:=hr.drawn
 have hK:Inv (fun s=>∃ u,ot u s∧Q .normal u):=fun s t e ⟨u,h1,h2⟩=>⟨u,h1.trans e,h2⟩
 have h':=eZ (K':=fun s=>∃ u,ot u s∧Q .normal u) (fun s h=>⟨s,ot.refl s,h⟩) p.T s h
 have gi:mB (J1 p.dc) (Array.replicate ops.size false):=fun i hi=>by
  rw [Array.getD_eq_getD_getElem?,Array.getElem?_replicate] at hi
  split at hi <;> cases hi
 have J2:=(nL (E:=E) (f:=f) (EZ hA) hP hF hK p.T ops.size [] (Array.replicate ops.size false) 0 (fun k hk=>by simp at hk) gi ⟨by simp,fun i hi=>by simp [hi]⟩).1 hT s h'
 refine wF (R:=R) (w:=w) (β:=β) (s:=s) (f:=f) (K:=fun s=>∃ u,ot u s∧Q .normal u) ?_ _ _ R _ β s a q1 q2 rfl hf J2
 rintro a' w' ⟨s',R',β',⟨u,e,hu⟩,h2,h3,h4⟩
 exact ⟨u,R',β',hu,h2.eqv e.symm,h3.eqv rfl e.symm.b,e.ro.trans h4⟩
end
end Go.Am
