/- The abstract machine: an operation that changes slots alone may be taken first. -/
import Derived.Test.YtophnjjjmikmeaaGreatAmKH
set_option linter.all false
namespace Go.Am
open Go
section
variable {E:Env} {s t:St} {f:FuncId} {ops:Array Oper} {o oj oi:Oper} {d:Tmp} {x:SV} {K:St→Prop}
theorem Hj (ops:Array Oper) (j:Nat):mI ops.toList j=(ops[j]?).bind (·.dst):=by
 unfold mI
 rw [aE,Array.getElem?_toList]
 cases ops[j]? <;> rfl
theorem lG {e:Tmp} (h:.tmp e∈o.op.operands):e∈o.looksAt ops:=
 List.mem_append_left _ (List.mem_filterMap.2 ⟨.tmp e,by simpa using h,rfl⟩)
theorem iH {j:Nat} {want:Bool} {e:Tmp} (h:o.guard=some (j,want)) (he:mI ops.toList j=some e):e∈o.looksAt ops:=by
 rw [Hj] at he
 refine List.mem_append_right _ ?_
 rw [h]
 simp [he]
theorem jy (h:∀ e∈o.looksAt ops,lk s.ab e=lk t.ab e):∀ y∈o.op.operands,ba E s.ab y=ba E t.ab y:=fun _ hy=>
 Hh fun e he=>h e (lG (he ▸ hy))
theorem jh (h:∀ e∈o.looksAt ops,lk s.ab e=lk t.ab e):Ai ops.toList s o=Ai ops.toList t o:=by
 unfold Ai
 split
 ·rfl
 ·rename_i j want hg
  split
  ·rename_i e he
   rw [h e (iH hg he)]
  ·rfl
theorem tG (s:St) (d:Tmp) (x:SV) {e:Nat} (h:d≠e):lk (s.put (some d) x).ab e=lk s.ab e:=by
 simp only [St.put]
 split
 ·exact aD h
 ·rfl
theorem eV (s:St) (d:Option Tmp) (x:SV):(s.put d x).boxes=s.boxes∧(s.put d x).G=s.G∧(s.put d x).n=s.n∧(s.put d x).marks=s.marks∧(s.put d x).ro=s.ro:=by
 cases d with
 | none=>exact ⟨rfl,rfl,rfl,rfl,rfl⟩
 | some d=>
  simp only [St.put]
  split <;> exact ⟨rfl,rfl,rfl,rfl,rfl⟩
def u4 (E:Env) (f:FuncId) (ops:Array Oper) (o:Oper) (s:St) (x:SV):Prop:=
 (Ai ops.toList s o=some true∧ak E f s o=some (true,s.put o.dst x))∨(Ai ops.toList s o=some false∧x=.v eN)
theorem Hk {c:Bool} {s':St} (hN:qU o.op=true) (h:ak E f s o=some (c,s')):∃ x,s'=s.put o.dst x:=by
 obtain ⟨t',_,pre,preB,G,_,h2,_,_⟩:=fV (t:=s) rfl rfl rfl (fun _ _=>rfl) h
 obtain ⟨_,_,x,hx,_⟩:=h2 (by simp [hN])
 exact ⟨x,hx⟩
theorem Hl (hN:qU o.op=true):iZ E f o K s↔∃ s',ak E f s o=some (true,s')∧K s':=by
 unfold iZ
 split
 ·rename_i h
  rw [h] at hN
  simp [qU] at hN
 ·rename_i h
  rw [h] at hN
  simp [qU] at hN
 ·split
  ·rename_i c s' hs
   constructor
   ·intro h
    obtain ⟨rfl,hk⟩:=h.out
    exact ⟨s',hs,hk⟩
   ·rintro ⟨zd,h1,h2⟩
    rw [hs] at h1
    cases h1
    exact cX.mk rfl h2
  ·rename_i hs
   constructor
   ·exact fun h=>h.elim
   ·rintro ⟨zd,h1,_⟩
    rw [hs] at h1
    cases h1
theorem u5 (hN:qU o.op=true) (hK:Inv K) (h:bS E f ops.toList o K s):∃ x,u4 E f ops o s x∧K (s.put o.dst x):=by
 rcases (eU hK).1 h with ⟨h1,h2⟩ | ⟨h1,h2⟩
 ·obtain ⟨s',h3,h4⟩:=(Hl hN).1 h2
  obtain ⟨x,rfl⟩:=Hk hN h3
  exact ⟨x,.inl ⟨h1,h3⟩,h4⟩
 ·exact ⟨_,.inr ⟨h1,rfl⟩,h2⟩
theorem u6 (hN:qU o.op=true) (hK:Inv K) (hx:u4 E f ops o s x) (h:K (s.put o.dst x)):bS E f ops.toList o K s:=by
 rw [eU hK]
 rcases hx with ⟨h1,h2⟩ | ⟨h1,rfl⟩
 ·exact .inl ⟨h1,(Hl hN).2 ⟨_,h2,h⟩⟩
 ·exact .inr ⟨h1,h⟩
def CS (E:Env) (f:FuncId) (ops:List Oper) (o:Oper) (s:St):Prop:=match Ai ops s o with
 | some true=>match o.dst,ak E f s o with
  | some d,some (c,s')=>c=true∧lk s'.ab d=lk s.ab d
  | _,_=>False
 | some false=>True
 | none=>False
theorem J3 (hN:qU o.op=true) (hd:d∉o.looksAt ops) (bW:o.dst≠some d) (he:∀ e,d≠e→lk s.ab e=lk t.ab e) (hB:cO s.boxes=cO t.boxes) (hG:s.G=t.G) (hn:s.n=t.n)
  (h:CS E f ops.toList o s):CS E f ops.toList o t:=by
 have hl:∀ e∈o.looksAt ops,lk s.ab e=lk t.ab e:=fun e hm=>he e fun k=>hd (k ▸ hm)
 unfold CS at h ⊢
 rw [← jh hl]
 split
 ·rename_i hg
  rw [hg] at h
  simp only at h
  split at h
  ·rename_i e c s' Fp hs
   obtain ⟨t',h3,pre,preB,G,_,h4,_,_⟩:=fV hn hG hB (jy hl) hs
   obtain ⟨_,_,y,h5,h6⟩:=h4 (by simp [hN])
   rw [Fp,h3]
   refine ⟨h.1,?_⟩
   have WG:d≠e:=fun k=>bW (by rw [Fp,k])
   have h7:=h.2
   rw [h5,Fp] at h7
   rw [h6,Fp,← he e WG]
   simp only [St.put,← hn] at h7 ⊢
   split
   ·rename_i hb
    rw [hb] at h7
    simp only [aw] at h7 ⊢
    exact h7
   ·exact (he e WG).symm
  ·exact h.elim
 ·trivial
 ·rename_i hg
  rw [hg] at h
  exact h
theorem J4 (hN:qU o.op=true) (e:nB s t) (h:CS E f ops.toList o s):CS E f ops.toList o t:=by
 unfold CS at h ⊢
 rw [← zo e]
 split
 ·rename_i hg
  rw [hg] at h
  simp only at h
  split at h
  ·rename_i d c s' Fp hs
   obtain ⟨t',h3,pre,preB,G,_,h4,_,_⟩:=fV e.n e.G e.b (fun y _=>e.ba y) hs
   obtain ⟨_,_,y,h5,h6⟩:=h4 (by simp [hN])
   rw [Fp,h3]
   refine ⟨h.1,?_⟩
   rw [h6,← (e.put o.dst y).l,← h5,← e.l]
   exact h.2
  ·exact h.elim
 ·trivial
 ·rename_i hg
  rw [hg] at h
  exact h
def hZ (oj oi:Oper):Bool:=bN oi.op || (Nu oj.op&&!qU oi.op)
theorem Hm {al:Bool} {dst:Option Tmp} {pre:aV} (h:Qp al dst pre) {e:Nat} (he:dst≠some e) (l:aV):lk (pre++l) e=lk l e∨(al=true∧∃ k off,lk l e=.lp k off):=by
 rcases h with rfl | ⟨d,y,rfl,rfl | ⟨rfl,rfl⟩⟩
 ·exact .inl rfl
 ·exact .inl (aD fun k=>he (by rw [k]))
 ·simp only [List.cons_append,List.nil_append]
  rw [aD (fun k=>he (by rw [k]))]
  simp only [lk]
  cases hl:lk l e with
  | lp k off=>exact .inr ⟨trivial,k,off,rfl⟩
  | _=>exact .inl rfl
theorem qc {al:Bool} {pre:aV} (preB:bX) (G:List GO) (h:Qp al oi.dst pre) (bW:oi.dst≠some d) (hx:al=false∨∃ a,x=.v a):nB ((s.put (some d) x).eE pre preB G) ((s.eE pre preB G).put (some d) x):=by
 have hb:∀ b,Nat.blt d s.n=b→nB ((s.put (some d) x).eE pre preB G) ((s.eE pre preB G).put (some d) x):=fun b hb=>by
  have iQ:Nat.blt d (s.eE pre preB G).n=b:=hb
  rw [jZ,jZ,hb,iQ]
  cases b with
  | false=>exact nB.refl _
  | true=>
   refine ⟨funext fun e=>?_,rfl,rfl,rfl,rfl,rfl⟩
   simp only [cond_true,St.eE,List.cons_append,List.nil_append]
   by_cases k:d=e
   ·subst k
    rw [aw]
    rcases Hm h bW (.put d x :: s.ab) with h1 | ⟨h1,k,off,h2⟩
    ·rw [h1,aw]
    ·rw [aw] at h2
     rcases hx with hx | ⟨a,hx⟩
     ·rw [hx] at h1; cases h1
     ·rw [hx] at h2; cases h2
   ·rw [aD k]
    exact kP (aD k) pre
 exact hb _ rfl
theorem Fq (hN:qU oj.op=true) (Ed:oj.dst=some d) (A8:d∉oj.looksAt ops) (JW:oj.apart ops oi=true) (hK:Inv K) (hx:u4 E f ops oj s x) {pre:aV} {preB:bX} {G:List GO}
  (A9:Qp (bN oi.op) oi.dst pre) (Rq:qU oi.op=true→preB=[]∧G=s.G) (hk:K ((s.put (some d) x).eE pre preB G)) (M5:∀ t',K t'→hZ oj oi=true→CS E f ops.toList oj t') :
  ∃ x',u4 E f ops oj (s.eE pre preB G) x'∧K ((s.eE pre preB G).put (some d) x'):=by
 obtain ⟨_,bW,uD⟩:=Oper.apart_spec JW
 have Cs:oi.dst≠some d:=bW d Ed
 have qd:∀ e∈oj.looksAt ops,oi.dst≠some e:=fun e he k=>uD e k he
 have sh:∀ e∈oj.looksAt ops,(bN oi.op=false∨∃ b,lk s.ab e=.v b)→lk s.ab e=lk (s.eE pre preB G).ab e:=fun e he ha=>by
  rcases Hm A9 (qd e he) s.ab with h1 | ⟨h1,k,off,h2⟩
  ·exact h1.symm
  ·rcases ha with ha | ⟨b,ha⟩
   ·rw [ha] at h1; cases h1
   ·rw [ha] at h2; cases h2
 have J5:∀ b,Ai ops.toList s oj=some b→Ai ops.toList (s.eE pre preB G) oj=some b:=fun b hb=>by
  unfold Ai at hb ⊢
  split
  ·rename_i hg; rw [hg] at hb; exact hb
  ·rename_i j want hg
   rw [hg] at hb
   simp only at hb
   split
   ·rename_i e he
    rw [he] at hb
    simp only at hb
    split at hb
    ·rename_i b' hl
     have:=sh e (iH hg he) (.inr ⟨_,hl⟩)
     rw [← this,hl]
     exact hb
    ·rename_i hl
     have:=sh e (iH hg he) (.inr ⟨_,hl⟩)
     rw [← this,hl]
     exact hb
    ·cases hb
   ·rename_i he; rw [he] at hb; cases hb
 rcases hx with ⟨h1,h2⟩ | ⟨h1,rfl⟩
 ·rw [Ed] at h2
  by_cases UK:hZ oj oi=true
  ·have hr:=M5 _ hk UK
   -- the state with the slot, and the one without it
   have rC:∀ e,d≠e→lk ((s.put (some d) x).eE pre preB G).ab e=lk (s.eE pre preB G).ab e:=fun e he=>kP (tG s d x he) pre
   have hB:cO ((s.put (some d) x).eE pre preB G).boxes=cO (s.eE pre preB G).boxes:=by
    simp only [St.eE]; rw [(eV s _ x).1]
   have hn:((s.put (some d) x).eE pre preB G).n=(s.eE pre preB G).n:=(eV s _ x).2.2.1
   have J6:∀ e∈oj.looksAt ops,lk ((s.put (some d) x).eE pre preB G).ab e=lk (s.eE pre preB G).ab e:=fun e he=>rC e fun k=>A8 (k ▸ he)
   have Yw:Ai ops.toList ((s.put (some d) x).eE pre preB G) oj=some true:=by rw [jh J6]; exact J5 _ h1
   unfold CS at hr
   rw [Yw] at hr
   simp only [Ed] at hr
   split at hr
   ·rename_i d' c s' DR hs
    cases DR
    obtain ⟨rfl,hr⟩:=hr
    obtain ⟨t',h3,p,pB,G2,_,h4,_,_⟩:=fV (t:=s.eE pre preB G) hn rfl hB (jy J6) hs
    obtain ⟨_,_,y,h5,h6⟩:=h4 (by simp [hN])
    rw [h6] at h3
    rw [h5,Ed] at hr
    refine ⟨y,.inl ⟨J5 _ h1,h3⟩,hK _ _ ?_ hk⟩
    have WH:((s.put (some d) x).eE pre preB G).marks=(s.eE pre preB G).marks∧((s.put (some d) x).eE pre preB G).ro=(s.eE pre preB G).ro:=(eV s _ x).2.2.2
    obtain ⟨q1,q2,q3,q4,q5⟩:=eV (s.eE pre preB G) (some d) y
    refine ⟨funext fun e=>?_,by rw [q1]; exact hB,by rw [q2]; rfl,by rw [q4]; exact WH.1,by rw [q5]; exact WH.2,by rw [q3]; exact hn⟩
    by_cases k:d=e
    ·subst k
     rw [← hr]
     have hb:∀ b,Nat.blt d s.n=b→lk (((s.put (some d) x).eE pre preB G).put (some d) y).ab d=lk ((s.eE pre preB G).put (some d) y).ab d:=fun b hb=>by
      have Hn:Nat.blt d (s.eE pre preB G).n=b:=hb
      have Aj:Nat.blt d ((s.put (some d) x).eE pre preB G).n=b:=by rw [hn]; exact hb
      rw [jZ _ d y,jZ _ d y,Hn,Aj]
      cases b with
      | true=>simp [St.eE,aw]
      | false=>
       simp only [cond_false]
       rw [jZ,hb]
       rfl
     exact hb _ rfl
    ·rw [tG _ _ _ k]
     exact rC e k
   ·exact hr.elim
  ·have Fs:bN oi.op=false:=by cases ha:bN oi.op <;> simp_all [hZ]
   have hl:∀ e∈oj.looksAt ops,lk s.ab e=lk (s.eE pre preB G).ab e:=fun e he=>sh e he (.inl Fs)
   have fin:∀ y,s.put (some d) x=s.put (some d) y→ak E f (s.eE pre preB G) oj=some (true,(s.eE pre preB G).put oj.dst y) →
     ∃ x',u4 E f ops oj (s.eE pre preB G) x'∧K ((s.eE pre preB G).put (some d) x'):=fun y hy hs=>by
    refine ⟨y,.inl ⟨J5 _ h1,hs⟩,hK _ _ (qc (oi:=oi) preB G A9 Cs (.inl Fs)) ?_⟩
    rw [← hy]
    exact hk
   cases Yx:qU oi.op with
   | true=>
    obtain ⟨rfl,rfl⟩:=Rq Yx
    obtain ⟨t',h3,p,pB,G2,_,h4,_,_⟩:=fV (s:=s) (t:=s.eE pre [] s.G) rfl rfl rfl (jy hl) h2
    obtain ⟨_,_,y,h5,h6⟩:=h4 (by simp [hN])
    rw [Ed] at h5
    exact fin y h5 (by rw [h3,h6])
   | false=>
    have hR:Nu oj.op=false:=by cases ha:Nu oj.op <;> simp_all [hZ]
    obtain ⟨t',h3,y,h5,h6⟩:=A7 (s:=s) (t:=s.eE pre preB G) hN hR rfl (jy hl) h2
    rw [Ed] at h5
    exact fin y h5 (by rw [h3,h6])
 ·exact ⟨_,.inr ⟨J5 _ h1,rfl⟩,hK _ _ (qc (oi:=oi) preB G A9 Cs (.inr ⟨_,rfl⟩)) hk⟩
end
end Go.Am
namespace Go.Am
open Go
section
variable {E:Env} {s t:St} {o:Oper}
def fW (E:Env) (s:St) (o:Oper) (s':St):Prop:=
 (s'.ab=s.ab∨∃ d x,o.dst=some d∧(s'.ab=.put d x :: s.ab∨s'.ab=.put d x :: .kill d :: s.ab)∧∀ k off,x=.lp k off→(∃ y∈o.op.operands,∃ eI,ba E s.ab y=.lp k eI)∨(bN o.op=true∧k=d)) ∧
 (s'.boxes=s.boxes∨∃ k cs,s'.boxes=(k,cs) :: s.boxes∧((bN o.op=true∧o.dst=some k)∨∃ y∈o.op.operands,∃ off,ba E s.ab y=.lp k off))
theorem j6 {s1:St} (h1:s1.ab=s.ab) (h2:s1.boxes=s.boxes) {x:SV} (hx:∀ k off,x=.lp k off→∃ y∈o.op.operands,∃ eI,ba E s.ab y=.lp k eI):fW E s o (s1.put o.dst x):=by
 refine ⟨?_,.inl (by rw [(eV s1 o.dst x).1,h2])⟩
 cases hd:o.dst with
 | none=>exact .inl h1
 | some d=>
  simp only [St.put]
  split
  ·exact .inr ⟨d,x,rfl,.inl (by rw [h1]),fun k off h=>.inl (hx k off h)⟩
  ·exact .inl h1
theorem iR {s1:St} (h1:s1.ab=s.ab) (h2:s1.boxes=s.boxes) (a:AV):fW E s o (s1.put o.dst (.v a)):=j6 h1 h2 fun k off h=>by cases h
theorem ia {s1:St} (h1:s1.ab=s.ab) (h2:s1.boxes=s.boxes):fW E s o s1:=⟨.inl h1,.inl h2⟩
theorem J7 {k:Nat} {cs:List AV} (h:∃ y∈o.op.operands,∃ off,ba E s.ab y=.lp k off):fW E s o (s.r7 k cs):=⟨.inl rfl,.inr ⟨k,cs,rfl,.inr h⟩⟩
theorem Ba {n:Nat} {x:SV} {k off:Nat} (h:xu n x=some (.lp k off)):∃ eI,x=.lp k eI:=by
 unfold xu at h
 split at h <;> cases h
 exact ⟨_,rfl⟩
theorem xg {ty:TypeId} {x:SV} {j k off:Nat} (h:jk E ty x j=some (.lp k off)):∃ eI,x=.lp k eI:=by
 unfold jk at h
 repeat' (split at h)
 all_goals (first | (cases h; done) | exact Ba h)
theorem xh {ty:TypeId} {x ix:SV} {c:Bool} {k off:Nat} (h:jj E ty x ix=some (c,.lp k off)):∃ eI,x=.lp k eI:=by
 unfold jj at h
 repeat' (split at h)
 all_goals (first | (cases h; done) | skip)
 rename_i hm
 injection h with h; injection h with h1 h2; subst h2
 exact Ba hm
theorem CT {ty:TypeId} {p x:SV} {s':St} (hp:∀ k off,p=.lp k off→∃ y∈o.op.operands,∃ eI,ba E s.ab y=.lp k eI) (h:fy E s ty p x=some s'):fW E s o s':=by
 unfold fy at h
 repeat' (split at h)
 all_goals (first | (cases h; done) | skip)
 ·cases h; exact J7 (hp _ _ rfl)
 ·cases h; exact ia rfl rfl
theorem CU {ty:TypeId} {p x:SV} {c:Bool} {s':St} (hp:∀ k off,p=.lp k off→∃ y∈o.op.operands,∃ eI,ba E s.ab y=.lp k eI) (h:dU E s ty p x=some (c,s')):fW E s o s':=by
 unfold dU at h
 repeat' (split at h)
 all_goals (first | (cases h; done) | skip)
 ·injection h with h; injection h with h1 h2; subst h2; exact ia rfl rfl
 ·injection h with h; injection h with h1 h2; subst h2; exact ia rfl rfl
 ·injection h with h; injection h with h1 h2; subst h2; exact ia rfl rfl
 ·injection h with h; injection h with h1 h2; subst h2; exact ia rfl rfl
 ·rename_i hs
  injection h with h; injection h with h1 h2; subst h2; exact CT hp hs
theorem CV {ty:TypeId} {p x:SV} {c:Bool} {s':St} (hp:∀ k off,p=.lp k off→∃ y∈o.op.operands,∃ eI,ba E s.ab y=.lp k eI) (h:iz E s ty p x=some (c,s')):fW E s o s':=by
 unfold iz at h
 split at h
 ·rename_i hs
  injection h with h; injection h with e1 e2
  subst e2
  exact CU (s:=s.aZ (ox s p x).2.2) hp hs
 ·cases h
theorem sD {ty:TypeId} {m k x:SV} {s':St} (h:eo E s ty m k x=some s'):fW E s o s':=by
 unfold eo at h
 repeat' (split at h)
 all_goals (first | (cases h; done) | skip)
 cases h; exact ia rfl rfl
theorem Ft {x:SV} {s':St} (h:jW s o.dst x=some s'):fW E s o s':=by
 unfold jW at h
 split at h
 ·split at h
  ·rename_i l pos hg
   cases hb:Nat.blt pos l.length with
   | true=>
    rw [hb] at h
    simp only [cond_true] at h
    cases h
    exact iR rfl rfl _
   | false=>
    rw [hb] at h
    simp only [cond_false] at h
    cases h
    exact iR rfl rfl _
  ·cases h
 ·cases h
theorem zp {b:Builtin} {l:List AV} {tys:List TypeId} {c:Bool} {s':St} (h:bJ E s o.dst b l tys=some (c,s')):fW E s o s':=by
 unfold bJ at h
 cases b
 all_goals (try (cases h; done))
 all_goals (try simp only at h)
 all_goals (try (split at h <;> first | (cases h; done) | simp only at h))
 all_goals (repeat' (split at h))
 all_goals (first | (cases h; done) | skip)
 all_goals (injection h with h; injection h with h1 h2; subst h1 h2)
 all_goals (first | exact iR rfl rfl _ | exact ia rfl rfl)
theorem Fu {f:FuncId} {c:Bool} {s':St} (h:fC E f s o=some (c,s')):fW E s o s':=by
 unfold fC at h
 repeat' (split at h)
 all_goals (first | (cases h; done) | skip)
 injection h with h; injection h with h2 h3
 subst h3
 exact iR rfl rfl _
theorem va {f:FuncId} {el:TypeId} {cs:List AV} {c:Bool} {s':St} (ha:bN o.op=true) (h:ej E f s o.dst el cs=some (c,s')):fW E s o s':=by
 unfold ej at h
 split at h
 ·cases h
 ·rename_i d hd
  split at h
  ·injection h with h; injection h with h1 h2; subst h2
   rw [← hd]
   exact iR rfl rfl _
  ·split at h
   ·rename_i hb
    injection h with h; injection h with h1 h2; subst h2
    refine ⟨.inr ⟨d,.lp d 0,hd,.inr ?_,fun k off h=>by cases h; exact .inr ⟨ha,rfl⟩⟩,.inr ⟨d,cs,?_,.inl ⟨ha,hd⟩⟩⟩
    ·simp only [St.put,St.r7,St.kill,hb]
    ·rw [(eV _ (some d) (.lp d 0)).1]; rfl
   ·cases h
theorem CW {f:FuncId} {c:Bool} {s':St} (h:ak E f s o=some (c,s')):fW E s o s':=by
 cases ho:o.op
 case move x=>
  simp only [ak,ho] at h
  split at h
  all_goals (injection h with h; injection h with h1 h2; subst h2)
  ·exact iR rfl rfl _
  ·rename_i k off hx
   exact j6 rfl rfl fun k' eI e=>by cases e; exact ⟨x,by rw [ho]; simp [Op.operands],_,hx⟩
  ·exact j6 rfl rfl fun k' eI e=>by cases e
 case assign x=>
  simp only [ak,ho] at h
  split at h
  all_goals (injection h with h; injection h with h1 h2; subst h2)
  ·exact iR rfl rfl _
  ·rename_i k off hx
   exact j6 rfl rfl fun k' eI e=>by cases e; exact ⟨x,by rw [ho]; simp [Op.operands],_,hx⟩
  ·exact j6 rfl rfl fun k' eI e=>by cases e
 case nilCheck x=>
  simp only [ak,ho] at h
  split at h
  ·injection h with h; injection h with h1 h2; subst h2
   exact iR rfl rfl _
  ·injection h with h; injection h with h1 h2; subst h2
   exact iR rfl rfl _
  ·rename_i k off hx
   injection h with h; injection h with h1 h2; subst h2
   exact j6 rfl rfl fun k' eI e=>by cases e; exact ⟨x,by rw [ho]; simp [Op.operands],_,hx⟩
  ·cases h
 case fieldAddr a x j=>
  simp only [ak,ho] at h
  split at h
  ·rename_i p hp
   injection h with h; injection h with h1 h2; subst h2
   exact j6 rfl rfl fun k' eI e=>by subst e; exact ⟨x,by rw [ho]; simp [Op.operands],xg hp⟩
  ·cases h
 case indexAddr a x y=>
  simp only [ak,ho] at h
  split at h
  ·rename_i c' p hp
   injection h with h; injection h with h1 h2; subst h2
   exact j6 rfl rfl fun k' eI e=>by subst e; exact ⟨x,by rw [ho]; simp [Op.operands],xh hp⟩
  ·cases h
 case alloc e=>
  simp only [ak,ho] at h
  repeat' (split at h)
  all_goals (first | (cases h; done) | skip)
  exact va (by rw [ho]; rfl) h
 case box e x=>
  simp only [ak,ho] at h
  repeat' (split at h)
  all_goals (first | (cases h; done) | skip)
  exact va (by rw [ho]; rfl) h
 case store ty x y=>
  simp only [ak,ho] at h
  split at h
  ·rename_i hs
   injection h with h; injection h with h1 h2; subst h2
   exact CV (fun k off e=>⟨x,by rw [ho]; simp [Op.operands],off,e⟩) hs
  ·cases h
 case mapUpdate ty x y z=>
  simp only [ak,ho] at h
  split at h
  ·rename_i hs
   injection h with h; injection h with h1 h2; subst h2
   exact sD hs
  ·cases h
 case insert ty x y z=>
  simp only [ak,ho] at h
  split at h
  ·rename_i hs
   injection h with h; injection h with h1 h2; subst h2
   exact sD hs
  ·cases h
 case mapEntry ty x y=>
  simp only [ak,ho] at h
  split at h
  ·rename_i hs
   injection h with h; injection h with h1 h2; subst h2
   unfold eX at hs
   repeat' (split at hs)
   all_goals (first | (cases hs; done) | skip)
   injection hs with hs; injection hs with h3 hs; injection hs with h4 h5
   subst h5
   exact iR rfl rfl _
  ·cases h
 case entryStore ty x y z=>
  simp only [ak,ho] at h
  split at h
  ·rename_i hs
   injection h with h; injection h with h1 h2; subst h2
   unfold dC at hs
   repeat' (split at hs)
   all_goals (first | (cases hs; done) | skip)
   injection hs with hs; injection hs with h3 h4
   subst h4
   exact ia rfl rfl
  ·cases h
 case next x b=>
  cases b with
  | false=>simp [ak,ho] at h
  | true=>
   simp only [ak,ho] at h
   split at h
   ·rename_i hs
    injection h with h; injection h with h1 h2; subst h2
    exact Ft hs
   ·cases h
 case call cl=>
  obtain ⟨callee,args,tys⟩:=cl
  cases callee with
  | builtin b=>
   simp only [ak,ho] at h
   split at h
   ·rename_i r hf
    cases h
    exact Fu hf
   ·split at h
    ·exact zp h
    ·cases h
  | _=>simp [ak,ho] at h
 case makeFunc fo a b=>
  cases fo with
  | func g=>
   simp only [ak,ho] at h
   repeat' (split at h)
   all_goals (first | (cases h; done) | skip)
   injection h with h; injection h with h1 h2; subst h2
   exact iR rfl rfl _
  | _=>simp [ak,ho] at h
 case makeMap ty r=>
  cases r with
  | none=>
   simp only [ak,ho] at h
   injection h with h; injection h with h1 h2; subst h2
   exact iR rfl rfl _
  | some _=>simp [ak,ho] at h
 all_goals (first
  | (simp [ak,ho] at h; done)
  | (simp only [ak,ln,ho] at h; (repeat' (split at h)); (all_goals (first | (cases h; done) | skip)); (all_goals (injection h with h; injection h with h1 h2; subst h2)); (all_goals (exact iR rfl rfl _))))
def oO (s:St) (d:Nat) (cs:List AV):St:=s.eE [.put d (.lp d 0),.kill d] [(d,cs)] s.G
theorem CX {f:FuncId} {d:Tmp} {c:Bool} {s1:St} (Fs:bN o.op=true) (hd:o.dst=some d) (hg:E.tW f d=false) (h:ak E f s o=some (c,s1)) :
  c=true∧∃ cs,s1=oO s d cs∧∀ t:St,t.n=s.n→(∀ y∈o.op.operands,∀ v,ba E s.ab y=.v v→ba E t.ab y=.v v)→ak E f t o=some (true,oO t d cs):=by
 have key:∀ (el:TypeId) (cs:List AV),ej E f s o.dst el cs=some (c,s1)→c=true∧s1=oO s d cs∧∀ t:St,t.n=s.n→ej E f t o.dst el cs=some (true,oO t d cs):=by
  intro el cs h
  unfold ej at h
  rw [hd] at h
  simp only [hg,Bool.false_eq_true,if_false] at h
  split at h
  ·rename_i hb
   injection h with h; injection h with h1 h2; subst h1 h2
   refine ⟨rfl,?_,fun t ht=>?_⟩
   ·simp only [St.put,St.r7,St.kill,hb,oO,St.eE]; rfl
   ·unfold ej
    rw [hd]
    simp only [hg,Bool.false_eq_true,if_false,ht,hb]
    simp only [St.put,St.r7,St.kill,ht,hb,oO,St.eE]; rfl
  ·cases h
 cases ho:o.op
 case alloc e=>
  simp only [ak,ho] at h ⊢
  split at h
  ·split at h
   ·split at h
    ·rename_i hi _ _ hz EU
     obtain ⟨k1,k2,k3⟩:=key _ _ h
     refine ⟨k1,_,k2,fun t ht _=>?_⟩
     simp only [hi,hz,EU,if_true]
     exact k3 t ht
    ·cases h
   ·cases h
  ·cases h
 case box e x=>
  simp only [ak,ho] at h ⊢
  split at h
  ·split at h
   ·rename_i v hv EU
    obtain ⟨k1,k2,k3⟩:=key _ _ h
    refine ⟨k1,_,k2,fun t ht he=>?_⟩
    simp only [he x (by simp [Op.operands]) v hv,EU,if_true]
    exact k3 t ht
   ·cases h
  ·cases h
 all_goals (rw [ho] at Fs; simp [bN] at Fs)
theorem Ee {pre:aV} {preB:bX} {G:List GO} (h:fW E s o (s.eE pre preB G)) :
  (pre=[]∨∃ d x,o.dst=some d∧(pre=[.put d x]∨pre=[.put d x,.kill d])∧∀ k off,x=.lp k off→(∃ y∈o.op.operands,∃ eI,ba E s.ab y=.lp k eI)∨(bN o.op=true∧k=d)) ∧
  (preB=[]∨∃ k cs,preB=[(k,cs)]∧((bN o.op=true∧o.dst=some k)∨∃ y∈o.op.operands,∃ off,ba E s.ab y=.lp k off)):=by
 obtain ⟨h1,h2⟩:=h
 refine ⟨?_,?_⟩
 ·rcases h1 with h1 | ⟨d,x,hd,h1,hx⟩
  ·exact .inl (by simpa [St.eE] using h1)
  ·refine .inr ⟨d,x,hd,?_,hx⟩
   rcases h1 with h1 | h1
   ·left
    have h1:pre++s.ab=[.put d x]++s.ab:=h1
    exact List.append_cancel_right h1
   ·right
    have h1:pre++s.ab=[.put d x,.kill d]++s.ab:=h1
    exact List.append_cancel_right h1
 ·rcases h2 with h2 | ⟨k,cs,h2,hx⟩
  ·exact .inl (by simpa [St.eE] using h2)
  ·refine .inr ⟨k,cs,?_,hx⟩
   have h2:preB++s.boxes=[(k,cs)]++s.boxes:=h2
   exact List.append_cancel_right h2
theorem ib (d e:Nat) (l:aV):lk (.kill d :: l) e=(match lk l e with | .lp k off=>bif Nat.beq k d then .none else .lp k off | x=>x):=rfl
theorem vb {d e:Nat} {l:aV} (h:∀ off,lk l e≠.lp d off):lk (.kill d :: l) e=lk l e:=by
 rw [ib]
 split
 ·rename_i k off hk
  cases hb:Nat.beq k d with
  | true=>exact absurd (by rw [hk,Nat.eq_of_beq_eq_true hb]) (h off)
  | false=>rw [hk]; rfl
 ·rfl
theorem Fv {d:Nat} {pre:aV} {preB:bX} {G:List GO} (cs:List AV) (J8:fW E s o (s.eE pre preB G)) (bW:o.dst≠some d) (Fw:∀ y∈o.op.operands,∀ off,ba E s.ab y≠.lp d off) :
  nB ((oO s d cs).eE pre preB G) (oO (s.eE pre preB G) d cs):=by
 obtain ⟨h1,h2⟩:=Ee J8
 refine ⟨funext fun e=>?_,funext fun k=>?_,rfl,rfl,rfl,rfl⟩
 ·show lk (pre++([.put d (.lp d 0),.kill d]++s.ab)) e=lk ([.put d (.lp d 0),.kill d]++(pre++s.ab)) e
  rcases h1 with rfl | ⟨d',x,hd,hp,hx⟩
  ·rfl
  ·have Tk:d'≠d:=fun c=>bW (by rw [hd,c])
   have sW:∀ off,x≠.lp d off:=fun off c=>by
    rcases hx d off c with ⟨y,hy,eI,ho⟩ | ⟨_,h⟩
    ·exact Fw y hy eI ho
    ·exact Tk h.symm
   by_cases c1:d=e
   ·subst c1
    rcases hp with rfl | rfl
    ·simp only [List.cons_append,List.nil_append]
     rw [aD Tk,aw,aw]
    ·simp only [List.cons_append,List.nil_append]
     rw [aD Tk,aw,vb (fun off=>by rw [aw]; intro c; cases c; exact Tk rfl),aw]
   ·simp only [List.cons_append,List.nil_append]
    rw [aD c1]
    by_cases c2:d'=e
    ·subst c2
     rcases hp with rfl | rfl
     ·simp only [List.cons_append,List.nil_append]
      rw [aw,vb (fun off=>by rw [aw]; exact sW off),aw]
     ·simp only [List.cons_append,List.nil_append]
      rw [aw,vb (fun off=>by rw [aw]; exact sW off),aw]
    ·rcases hp with rfl | rfl
     ·simp only [List.cons_append,List.nil_append]
      rw [aD c2,aD c1,ib,ib,aD c2]
     ·simp only [List.cons_append,List.nil_append]
      rw [aD c2,ib,aD c1,ib,ib,aD c2,ib]
      cases lk s.ab e with
      | lp k off=>cases hb:Nat.beq k d <;> cases Aj:Nat.beq k d' <;> simp [hb,Aj]
      | _=>rfl
 ·show cO (preB++([(d,cs)]++s.boxes)) k=cO ([(d,cs)]++(preB++s.boxes)) k
  rcases h2 with rfl | ⟨k',dB,rfl,hk⟩
  ·rfl
  ·have Jg:k'≠d:=fun c=>by
    subst c
    rcases hk with ⟨_,hk⟩ | ⟨y,hy,off,ho⟩
    ·exact bW hk
    ·exact Fw y hy off ho
   simp only [List.cons_append,List.nil_append,cO]
   cases hb:Nat.beq k' k with
   | true=>
    have:Nat.beq d k=false:=by
     cases Aj:Nat.beq d k with
     | true=>exact absurd ((Nat.eq_of_beq_eq_true hb).trans (Nat.eq_of_beq_eq_true Aj).symm) Jg
     | false=>rfl
    rw [this]; rfl
   | false=>rfl
end
section
variable {E:Env} {s t:St} {f:FuncId} {o:Oper} {K K':St→Prop}
theorem CY (hn:s.n=t.n) (hG:s.G=t.G) (hB:∀ k off,(∃ y∈o.op.operands,ba E s.ab y=.lp k off)→cO s.boxes k=cO t.boxes k) (dE:∀ y∈o.op.operands,ba E s.ab y=ba E t.ab y) (h:iZ E f o K s)
  (hK:∀ pre preB G,fW E t o (t.eE pre preB G)→K (s.eE pre preB G)→K' (t.eE pre preB G)):iZ E f o K' t:=by
 unfold iZ at h ⊢
 split at h
 ·rename_i x args tys ho
  have h1:ba E s.ab x=ba E t.ab x:=dE x (by rw [ho]; simp [Op.operands,Call.operands])
  have h2:jU E s.ab args.toList=jU E t.ab args.toList:=fk fun y hy=>dE y (by rw [ho]; simp [Op.operands,Call.operands]; exact .inr (by simpa using hy))
  try simp only [ho]
  rw [← h1,← h2,← hG]
  split at h
  ·refine cC.mono h fun r G' hk=>?_
   obtain ⟨pre,preB,G,p1,p2,p3,p4⟩:=bC.cJ (s:=s) (t:=t) (al:=bN o.op) hn G' o.dst (.v r)
   rw [p3] at hk
   have hO:fW E t o ((t.aZ G').put o.dst (.v r)):=iR rfl rfl _
   rw [p4] at hO ⊢
   exact hK pre preB G hO hk
  ·refine jx.mono h fun r G' hk=>?_
   obtain ⟨pre,preB,G,p1,p2,p3,p4⟩:=bC.cJ (s:=s) (t:=t) (al:=bN o.op) hn G' o.dst (.v (.bool r))
   rw [p3] at hk
   have hO:fW E t o ((t.aZ G').put o.dst (.v (.bool r))):=iR rfl rfl _
   rw [p4] at hO ⊢
   exact hK pre preB G hO hk
  ·exact h.elim
 ·exact h.elim
 ·split at h
  ·rename_i c s' hs
   obtain ⟨t',h1,pre,preB,G,p1,p2,p3,p4⟩:=qb hn hG hB dE hs
   have hO:=CW h1
   rw [h1]
   obtain ⟨rfl,hk⟩:=h.out
   refine cX.mk rfl ?_
   rw [p3] at hk
   rw [p4] at hO ⊢
   exact hK pre preB G hO hk
  ·exact h.elim
theorem Ef (ha:bN o.op=true):iZ E f o K s↔∃ s',ak E f s o=some (true,s')∧K s':=by
 unfold iZ
 split
 ·rename_i h
  rw [h] at ha
  simp [bN] at ha
 ·rename_i h
  rw [h] at ha
  simp [bN] at ha
 ·split
  ·rename_i c s' hs
   constructor
   ·intro h
    obtain ⟨rfl,hk⟩:=h.out
    exact ⟨s',hs,hk⟩
   ·rintro ⟨zd,h1,h2⟩
    rw [hs] at h1
    cases h1
    exact cX.mk rfl h2
  ·rename_i hs
   constructor
   ·exact fun h=>h.elim
   ·rintro ⟨zd,h1,_⟩
    rw [hs] at h1
    cases h1
end
end Go.Am
namespace Go.Am
open Go
section
variable {E:Env} {s t:St} {f:FuncId} {ops:Array Oper} {o oj oi:Oper} {d:Tmp} {x:SV} {K K':St→Prop} {cQ:Nat→List Nat} {C:List Nat}
def CZ (E:Env) (f:FuncId) (ops:Array Oper) (cQ:Nat→List Nat) (C:List Nat) (i:Nat) (s:St):Prop:=
 ∀ j∈C,∀ oj oi,ops[j]?=some oj→ops[i]?=some oi→hZ oj oi=true→j∉cQ i→CS E f ops.toList oj s
def NC (ops:Array Oper) (C:List Nat):Prop:=∀ j∈C,∀ oj,ops[j]?=some oj→qU oj.op=true
theorem nC {i:Nat} (hC:NC ops C):Inv (CZ E f ops cQ C i):=fun _ _ e h j hj oj oi h1 h2 h3 h4=>J4 (hC j hj oj h1) e (h j hj oj oi h1 h2 h3 h4)
def eK (E:Env) (f:FuncId) (ops:Array Oper) (cQ:Nat→List Nat) (C:List Nat) (K:St→Prop):Nat→Array Bool→St→Prop
 | 0,listed,s=>Region.ready .any ops listed=[]∧K s
 | n+1,listed,s=>(Region.ready .any ops listed=[]→K s) ∧
   ∀ i∈Region.ready .any ops listed,∀ oi,ops[i]?=some oi→bS E f ops.toList oi (fun s'=>CZ E f ops cQ C i s'∧eK E f ops cQ C K n (listed.setIfInBounds i true) s') s
theorem fX (hC:NC ops C) (hK:Inv K):∀ n listed,Inv (eK E f ops cQ C K n listed)
 | 0,_=>fun s t e h=>⟨h.1,hK s t e h.2⟩
 | n+1,_=>fun s t e h=>⟨fun h0=>hK s t e (h.1 h0),fun i hi oi qd=>A6 (fun s t e h=>⟨nC hC s t e h.1,fX hC hK n _ s t e h.2⟩) s t e (h.2 i hi oi qd)⟩
theorem lH {C':List Nat}:∀ n (listed:Array Bool) (s:St),
  (∀ k∈C',k∈C∨∀ i ok oi,ops[k]?=some ok→ops[i]?=some oi→listed.getD i true=false→hZ ok oi=true→k∈cQ i) →
  eK E f ops cQ C K n listed s→eK E f ops cQ C' K n listed s
 | 0,_,_,_,h=>h
 | n+1,listed,s,hk,h=>⟨h.1,fun i hi oi qd=>bT (h.2 i hi oi qd) fun s' h'=>⟨fun k Nv ok Md h1 h2 h3 h4=>by
   rcases hk k Nv with h5 | h5
   ·exact h'.1 k h5 ok Md h1 h2 h3 h4
   ·exact absurd (h5 i ok Md h1 h2 (mem_ready.1 hi).1 h3) h4,lH n _ s' (fun k Nv=>by
   rcases hk k Nv with h5 | h5
   ·exact .inl h5
   ·refine .inr fun i' ok Md h1 h2 h3 h4=>h5 i' ok Md h1 h2 ?_ h4
    by_cases e:i=i'
    ·subst e; exact (mem_ready.1 hi).1
    ·rw [getD_set_ne true e] at h3; exact h3) h'.2⟩⟩
def xY (ops:Array Oper) (cQ:Nat→List Nat):Prop:=∀ i oi a,ops[i]?=some oi→a∈cQ i→∃ e∈oi.after,Region.binds .any e=true∧(e.on=a∨a∈cQ e.on)
def lI (cQ:Nat→List Nat) (listed:Array Bool):Prop:=∀ i,listed.getD i false=true→∀ a∈cQ i,listed.getD a false=true
theorem lI.ready {listed:Array Bool} (h:lI cQ listed) (ha:xY ops cQ) {i:Nat} (hi:i∈Region.ready .any ops listed):∀ a∈cQ i,listed.getD a false=true:=fun a Tl=>by
 obtain ⟨_,o,ho,mL⟩:=mem_ready.1 hi
 obtain ⟨e,he,hb,h2⟩:=ha i o a ho Tl
 rcases h2 with rfl | h2
 ·exact mL e he hb
 ·exact h _ (mL e he hb) a h2
theorem iI {listed:Array Bool} {i:Nat} (h:listed.getD i false=true):listed.getD i true=true:=by
 rw [Array.getD_eq_getD_getElem?] at *
 cases hl:listed[i]? with
 | none=>rw [hl] at h; cases h
 | some b=>rw [hl] at h; exact h
theorem lI.add {listed:Array Bool} (h:lI cQ listed) (ha:xY ops cQ) {i:Nat} (hi:i∈Region.ready .any ops listed):lI cQ (listed.setIfInBounds i true):=fun k hk a Tl=>by
 by_cases e:i=k
 ·subst e
  exact getD_set_true (h.ready ha hi a Tl)
 ·rw [getD_set_ne false e] at hk
  exact getD_set_true (h k hk a Tl)
theorem C0 (hA:xY ops cQ) (hC:NC ops C) (hK:Inv K) {j:Nat} (hj:ops[j]?=some oj) (hN:qU oj.op=true) (Ed:oj.dst=some d) (A8:d∉oj.looksAt ops)
  (UL:∀ k∈C,∀ ok,ops[k]?=some ok→d∉ok.looksAt ops∧ok.dst≠some d):∀ n (listed:Array Bool) (s:St) (x:SV),lI cQ listed →
   (∀ i oi,ops[i]?=some oi→i≠j→listed.getD i true=false→(∀ e∈oi.after,Region.binds .any e=true→e.on≠j)→oj.apart ops oi=true) →
   j∈Region.ready .any ops listed→u4 E f ops oj s x→eK E f ops cQ (j :: C) K n (listed.setIfInBounds j true) (s.put (some d) x)→eK E f ops cQ C K (n+1) listed s:=by
 have Jo:NC ops (j :: C):=fun k hk ok ho=>by
  rcases List.mem_cons.1 hk with rfl | hk
  ·rw [hj] at ho; cases ho; exact hN
  ·exact hC k hk ok ho
 have self:∀ n (listed:Array Bool) (s:St) (x:SV),u4 E f ops oj s x→eK E f ops cQ (j :: C) K n (listed.setIfInBounds j true) (s.put (some d) x)→∀ oi,ops[j]?=some oi →
   bS E f ops.toList oi (fun s'=>CZ E f ops cQ C j s'∧eK E f ops cQ C K n (listed.setIfInBounds j true) s') s:=fun n listed s x hx h oi qd=>by
  rw [hj] at qd
  cases qd
  refine u6 hN (fun s t e h=>⟨nC hC s t e h.1,fX hC hK _ _ s t e h.2⟩) hx ?_
  rw [Ed]
  refine ⟨fun k _ ok Md _ h2 h3 _=>?_,lH n _ _ (fun k hk=>.inl (List.mem_cons_of_mem _ hk)) h⟩
  rw [hj] at h2
  cases h2
  simp [hZ,A4 hN,hN] at h3
 intro n
 induction n with
 | zero=>
  intro listed s x _ _ hr hx h
  refine ⟨fun h0=>by rw [h0] at hr; simp at hr,fun i hi oi qd=>?_⟩
  by_cases e:i=j
  ·subst e; exact self 0 listed s x hx h oi qd
  ·have:=ready_mono hi e
   rw [h.1] at this
   simp at this
 | succ n ih=>
  intro listed s x gd jr hr hx h
  refine ⟨fun h0=>by rw [h0] at hr; simp at hr,fun i hi oi qd=>?_⟩
  by_cases e:i=j
  ·subst e; exact self (n+1) listed s x hx h oi qd
  ·have Ho:=(mem_ready.1 hi).1
   have J9:=(mem_ready.1 hr).1
   have MU:∀ ed∈oi.after,Region.binds .any ed=true→ed.on≠j:=fun ed he hb iw=>by
    obtain ⟨_,o,ho,mL⟩:=mem_ready.1 hi
    rw [qd] at ho
    cases ho
    have h1:=iI (mL ed he hb)
    rw [iw,J9] at h1
    cases h1
   have JW:=jr i oi qd e Ho MU
   have hG:=h.2 i (ready_mono hi e) oi qd
   have Hp:j∉cQ i:=fun hm=>by
    have h1:=iI (gd.ready hA hi j hm)
    rw [J9] at h1
    cases h1
   have Tm:Inv (fun s'=>CZ E f ops cQ (j :: C) i s'∧eK E f ops cQ (j :: C) K n ((listed.setIfInBounds j true).setIfInBounds i true) s'):=
    fun s t e h=>⟨nC Jo s t e h.1,fX Jo hK _ _ s t e h.2⟩
   have Nw:∀ k ok,ops[k]?=some ok→k≠j→(listed.setIfInBounds i true).getD k true=false→(∀ e∈ok.after,Region.binds .any e=true→e.on≠j)→oj.apart ops ok=true:=fun k ok hk UM Rr my=>by
    refine jr k ok hk UM ?_ my
    by_cases e':i=k
    ·subst e'; exact Ho
    ·rw [getD_set_ne true e'] at Rr; exact Rr
   have core:∀ {pre:aV} {preB:bX} {G:List GO},Qp (bN oi.op) oi.dst pre→(qU oi.op=true→preB=[]∧G=s.G) →
     (CZ E f ops cQ (j :: C) i ((s.put (some d) x).eE pre preB G)∧eK E f ops cQ (j :: C) K n ((listed.setIfInBounds j true).setIfInBounds i true) ((s.put (some d) x).eE pre preB G)) →
     CZ E f ops cQ C i (s.eE pre preB G)∧eK E f ops cQ C K (n+1) (listed.setIfInBounds i true) (s.eE pre preB G):=by
    intro pre preB G A9 Rq hk
    obtain ⟨x',sW,fA⟩:=Fq hN Ed A8 JW Tm hx A9 Rq hk (fun t' rG hd=>rG.1 j (List.mem_cons_self ..) oj oi hj qd hd Hp)
    refine ⟨fun k Nv ok Md h1 h2 h3 h4=>?_,?_⟩
    ·obtain ⟨q1,q2⟩:=UL k Nv ok h1
     obtain ⟨b1,b2,b3,_⟩:=eV (s.eE pre preB G) (some d) x'
     exact J3 (hC k Nv ok h1) q1 q2 (fun e he=>tG _ _ _ he) (by rw [b1]) b2 b3 (fA.1 k (List.mem_cons_of_mem _ Nv) ok Md h1 h2 h3 h4)
    ·refine ih (listed.setIfInBounds i true) _ x' (gd.add hA hi) Nw (ready_mono hr (Ne.symm e)) sW ?_
     rw [Array.setIfInBounds_comm _ _ e]
     exact fA.2
   rw [eU (fun s t e h=>⟨nC hC s t e h.1,fX hC hK _ _ s t e h.2⟩)]
   obtain ⟨Jk,_,_⟩:=Oper.apart_spec JW
   have sh:∀ e∈oi.looksAt ops,lk (s.put (some d) x).ab e=lk s.ab e:=fun e he=>tG s d x fun k=>Jk d Ed (k ▸ he)
   obtain ⟨b1,b2,b3,b4,b5⟩:=eV s (some d) x
   rcases (eU Tm).1 hG with ⟨h1,h2⟩ | ⟨h1,h2⟩
   ·refine .inl ⟨by rw [← jh sh]; exact h1,rL b3 b2 (by rw [b1]) (jy sh) h2 fun pre preB G hp Rq hk=>core hp (fun hh=>?_) hk⟩
    obtain ⟨q1,q2⟩:=Rq hh
    exact ⟨q1,by rw [q2,b2]⟩
   ·refine .inr ⟨by rw [← jh sh]; exact h1,?_⟩
    obtain ⟨pre,preB,G,p1,p2,p3,p4⟩:=bC.put (s:=s.put (some d) x) (t:=s) (al:=bN oi.op) (w:=false) b3 b2 oi.dst (.v eN)
    obtain ⟨q1,q2,_⟩:=p2 rfl
    rw [p3] at h2
    rw [p4]
    exact core p1 (fun _=>⟨q1,by rw [q2,b2]⟩) h2
theorem Eg {i:Nat} {s:St}:CZ E f ops cQ [] i s:=fun j hj=>by cases hj
theorem Nx {y:Operand} {k off:Nat} (h:ba E s.ab y=.lp k off):∃ e,y=.tmp e∧lk s.ab e=.lp k off:=by
 cases y with
 | tmp e=>exact ⟨e,rfl,h⟩
 | const v=>simp only [ba] at h; split at h <;> cases h
 | global g=>simp only [ba] at h; split at h <;> cases h
 | func g=>cases h
theorem Hq (hA:xY ops cQ) (hK:Inv K) {j:Nat} (hj:ops[j]?=some oj) (hg:oj.guard=none) (Ed:oj.dst=some d) (Fs:bN oj.op=true) (Ny:E.tW f d=false):∀ n (listed:Array Bool) (s s1:St),lI cQ listed →
  (∀ i oi,ops[i]?=some oi→i≠j→listed.getD i true=false→j∉cQ i→oj.apart ops oi=true∧∀ e∈oi.looksAt ops,∀ off,lk s.ab e≠.lp d off) →
  j∈Region.ready .any ops listed→ak E f s oj=some (true,s1)→eK E f ops cQ [] K n (listed.setIfInBounds j true) s1→eK E f ops cQ [] K (n+1) listed s:=by
 have Jo:NC ops []:=fun k hk=>by cases hk
 have self:∀ n (listed:Array Bool) (s s1:St),ak E f s oj=some (true,s1)→eK E f ops cQ [] K n (listed.setIfInBounds j true) s1→∀ oi,ops[j]?=some oi →
   bS E f ops.toList oi (fun s'=>CZ E f ops cQ [] j s'∧eK E f ops cQ [] K n (listed.setIfInBounds j true) s') s:=fun n listed s s1 hx h oi qd=>by
  rw [hj] at qd
  cases qd
  unfold bS
  rw [hg]
  exact (Ef Fs).2 ⟨s1,hx,Eg,h⟩
 intro n
 induction n with
 | zero=>
  intro listed s s1 _ _ hr hx h
  refine ⟨fun h0=>by rw [h0] at hr; simp at hr,fun i hi oi qd=>?_⟩
  by_cases e:i=j
  ·subst e; exact self 0 listed s s1 hx h oi qd
  ·have:=ready_mono hi e
   rw [h.1] at this
   simp at this
 | succ n ih=>
  intro listed s s1 gd jr hr hx h
  refine ⟨fun h0=>by rw [h0] at hr; simp at hr,fun i hi oi qd=>?_⟩
  by_cases e:i=j
  ·subst e; exact self (n+1) listed s s1 hx h oi qd
  ·have Ho:=(mem_ready.1 hi).1
   have J9:=(mem_ready.1 hr).1
   have Hp:j∉cQ i:=fun hm=>by
    have h1:=iI (gd.ready hA hi j hm)
    rw [J9] at h1
    cases h1
   obtain ⟨JW,my⟩:=jr i oi qd e Ho Hp
   obtain ⟨Jk,bW,uD⟩:=Oper.apart_spec JW
   have Cs:oi.dst≠some d:=bW d Ed
   obtain ⟨_,cs,rfl,D4⟩:=CX Fs Ed Ny hx
   have hG:=h.2 i (ready_mono hi e) oi qd
   have Tm:Inv (fun s'=>CZ E f ops cQ [] i s'∧eK E f ops cQ [] K n ((listed.setIfInBounds j true).setIfInBounds i true) s'):=
    fun s t e h=>⟨nC Jo s t e h.1,fX Jo hK _ _ s t e h.2⟩
   have Fw:∀ y∈oi.op.operands,∀ off,ba E s.ab y≠.lp d off:=fun y hy off hv=>by
    obtain ⟨e',rfl,hv⟩:=Nx hv
    exact my e' (lG hy) off hv
   have core:∀ {pre:aV} {preB:bX} {G:List GO},fW E s oi (s.eE pre preB G) →
     (CZ E f ops cQ [] i ((oO s d cs).eE pre preB G)∧eK E f ops cQ [] K n ((listed.setIfInBounds j true).setIfInBounds i true) ((oO s d cs).eE pre preB G)) →
     CZ E f ops cQ [] i (s.eE pre preB G)∧eK E f ops cQ [] K (n+1) (listed.setIfInBounds i true) (s.eE pre preB G):=by
    intro pre preB G J8 hk
    refine ⟨Eg,?_⟩
    obtain ⟨o1,o2⟩:=Ee J8
    have sh:∀ e' off,oi.dst≠some e'∨lk (s.eE pre preB G).ab e'=.lp d off→lk (s.eE pre preB G).ab e'=.lp d off→lk s.ab e'=.lp d off:=by
     intro e' off _ hv
     have hv:lk (pre++s.ab) e'=.lp d off:=hv
     rcases o1 with rfl | ⟨d',x,DR,hp,Ka⟩
     ·exact hv
     ·have sW:∀ off,x≠.lp d off:=fun off c=>by
       rcases Ka d off c with ⟨y,hy,eI,ho⟩ | ⟨_,h⟩
       ·exact Fw y hy eI ho
       ·exact Cs (by rw [DR,h])
      by_cases c2:d'=e'
      ·subst c2
       rcases hp with rfl | rfl
       ·simp only [List.cons_append,List.nil_append,aw] at hv; exact absurd hv (sW off)
       ·simp only [List.cons_append,List.nil_append,aw] at hv; exact absurd hv (sW off)
      ·rcases hp with rfl | rfl
       ·simp only [List.cons_append,List.nil_append] at hv; rwa [aD c2] at hv
       ·simp only [List.cons_append,List.nil_append] at hv
        rw [aD c2,ib] at hv
        cases hl:lk s.ab e' with
        | lp k eI=>
         rw [hl] at hv
         simp only at hv
         cases hb:Nat.beq k d' with
         | true=>rw [hb] at hv; cases hv
         | false=>rw [hb] at hv; exact hv
        | v a=>rw [hl] at hv; cases hv
        | none=>rw [hl] at hv; cases hv
    refine ih (listed.setIfInBounds i true) _ _ (gd.add hA hi) ?_ (ready_mono hr (Ne.symm e)) (D4 (s.eE pre preB G) rfl ?_) ?_
    ·intro k ok fA UM Rr UN
     have UO:listed.getD k true=false:=by
      by_cases e':i=k
      ·subst e'; exact Ho
      ·rw [getD_set_ne true e'] at Rr; exact Rr
     obtain ⟨q1,q2⟩:=jr k ok fA UM UO UN
     exact ⟨q1,fun e' Tn off hv=>q2 e' Tn off (sh e' off (.inr hv) hv)⟩
    ·intro y hy v hv
     cases y with
     | tmp e'=>
      have DR:oi.dst≠some e':=fun c=>uD e' c (lG hy)
      have hv:lk s.ab e'=.v v:=hv
      show lk (pre++s.ab) e'=.v v
      rcases o1 with rfl | ⟨d',x,Nl,hp,_⟩
      ·exact hv
      ·have c2:d'≠e':=fun c=>DR (by rw [Nl,c])
       rcases hp with rfl | rfl
       ·simp only [List.cons_append,List.nil_append]; rw [aD c2]; exact hv
       ·simp only [List.cons_append,List.nil_append]
        rw [aD c2,vb (fun off=>by rw [hv]; intro c; cases c)]; exact hv
     | const _=>exact hv
     | global _=>exact hv
     | func _=>exact hv
    ·rw [Array.setIfInBounds_comm _ _ e]
     exact fX Jo hK _ _ _ _ (Fv cs J8 Cs Fw) hk.2
   have zq:∀ e'∈oi.looksAt ops,lk (oO s d cs).ab e'=lk s.ab e':=fun e' Tn=>by
    have c1:d≠e':=fun c=>Jk d Ed (c ▸ Tn)
    show lk (.put d (.lp d 0) :: .kill d :: s.ab) e'=_
    rw [aD c1,vb (my e' Tn)]
   have ux:∀ k off,(∃ y∈oi.op.operands,ba E (oO s d cs).ab y=.lp k off)→cO (oO s d cs).boxes k=cO s.boxes k:=by
    rintro k off ⟨y,hy,hv⟩
    rw [jy zq y hy] at hv
    have Jg:d≠k:=fun c=>Fw y hy off (by rw [c]; exact hv)
    show cO ((d,cs) :: s.boxes) k=cO s.boxes k
    simp only [cO]
    cases hb:Nat.beq d k with
    | true=>exact absurd (Nat.eq_of_beq_eq_true hb) Jg
    | false=>rfl
   rw [eU (fun s t e h=>⟨nC Jo s t e h.1,fX Jo hK _ _ s t e h.2⟩)]
   rcases (eU Tm).1 hG with ⟨h1,h2⟩ | ⟨h1,h2⟩
   ·exact .inl ⟨by rw [← jh zq]; exact h1,CY (s:=oO s d cs) (t:=s) rfl rfl ux (jy zq) h2 fun pre preB G hO hk=>core hO hk⟩
   ·refine .inr ⟨by rw [← jh zq]; exact h1,?_⟩
    obtain ⟨pre,preB,G,p1,p2,p3,p4⟩:=bC.put (s:=oO s d cs) (t:=s) (al:=bN oi.op) (w:=false) rfl rfl oi.dst (.v eN)
    rw [p3] at h2
    have hO:fW E s oi (s.put oi.dst (.v eN)):=iR rfl rfl _
    rw [p4] at hO ⊢
    exact core hO h2
end
inductive DT where
 | done
 | take (j:Nat) (C:List Nat) (t:DT)
 | br (i:Nat) (re C:List Nat) (t:DT) (more:DT)
 | stop
 | al (j:Nat) (W:List Nat) (t:DT)
structure lJ where
 dst:Option Tmp
 lo:List Tmp
 pr:List Nat
 n:Bool
 r:Bool
 a:Bool
def Eh (d:Nat) (s:aV):List Nat→Bool
 | []=>true
 | e :: l=>(match lk s e with
  | .lp k _=>!Nat.beq k d
  | _=>true)&&Eh d s l
def Nz (E:Env) (f:FuncId) (o:Oper) (W:List Nat) (s:St):Bool:=match o.guard,o.dst with
 | none,some d=>!E.tW f d&&Eh d s.ab W
 | _,_=>false
def iJ (x:Nat):List Nat→Bool
 | []=>false
 | y :: l=>Nat.beq x y || iJ x l
def nD:List Edge→List Nat
 | []=>[]
 | e :: l=>bif Region.binds .any e then e.on :: nD l else nD l
def jz (ops:Array Oper) (o:Oper):lJ:=⟨o.dst,o.looksAt ops,nD o.after.toList,qU o.op,Nu o.op,bN o.op⟩
def zr {α:Type} (n:Nat) (K:Nat→α):α:=match n with
 | 0=>K 0
 | m+1=>K (Nat.succ m)
def xZ {α:Type}:List Nat→(List Nat→α)→α
 | [],K=>K []
 | a :: l,K=>zr a fun a=>xZ l fun l=>K (a :: l)
def NA {α:Type} (i:lJ) (K:lJ→α):α:=match i with
 | ⟨d,lo,pr,n,r,a⟩=>xZ lo fun lo=>xZ pr fun pr=>(match d with
  | none=>(fun (K:Option Tmp→α)=>K none)
  | some d=>(fun (K:Option Tmp→α)=>zr d fun d=>K (some d))) fun d=>(bif n then (fun (K:Bool→α)=>K true) else fun K=>K false) fun n=>
   (bif r then (fun (K:Bool→α)=>K true) else fun K=>K false) fun r=>(bif a then (fun (K:Bool→α)=>K true) else fun K=>K false) fun a=>K ⟨d,lo,pr,n,r,a⟩
def Ei {α:Type}:List lJ→(List lJ→α)→α
 | [],K=>K []
 | i :: l,K=>NA i fun i=>Ei l fun l=>K (i :: l)
def rN (x y:lJ):Bool:=
 (match x.dst with
 | some d=>!iJ d y.lo&&(match y.dst with | some e=>!Nat.beq e d | none=>true)
 | none=>true) &&
 (match y.dst with
 | some d=>!iJ d x.lo
 | none=>true)
def Bb (j:Nat) (x:lJ) (cf:List Nat):Nat→List lJ→Bool
 | _,[]=>true
 | i,y :: l=>(Nat.beq i j || iJ j y.pr || iJ i cf || rN x y)&&Bb j x cf (i+1) l
def Bc (I:List lJ):Nat→List lJ→List (List Nat)→Bool
 | _,[],_=>true
 | j,x :: l,c :: cs=>(!x.n || Bb j x c 0 I)&&Bc I (j+1) l cs
 | _,_,_=>false
def vc (cQ:Nat→List Nat):Nat→List lJ→Bool
 | _,[]=>true
 | i,x :: l=>(cQ i).all (fun a=>x.pr.any fun e=>Nat.beq e a || iJ a (cQ e))&&vc cQ (i+1) l
def lK (L:Nat):Nat→List lJ→List Nat
 | _,[]=>[]
 | i,x :: l=>bif !L.testBit i&&x.pr.all (fun e=>L.testBit e) then i :: lK L (i+1) l else lK L (i+1) l
def nE (x y:lJ):Bool:=y.a || (x.r&&!y.n)
def nF (cQ:Nat→List Nat) (L k:Nat) (x:lJ):Nat→List lJ→Bool
 | _,[]=>true
 | i,y :: l=>(L.testBit i || !nE x y || iJ k (cQ i))&&nF cQ L k x (i+1) l
def tH (I:List lJ) (cQ:Nat→List Nat) (L:Nat) (C C':List Nat):Bool:=C.all fun k=>iJ k C' || match nth I k with
 | none=>false
 | some x=>nF cQ L k x 0 I
def Me (I:List lJ) (cQ:Nat→List Nat) (C re:List Nat) (i:Nat) (y:lJ):Bool:=C.all fun k=>iJ k re || match nth I k with
 | none=>false
 | some x=>!nE x y || iJ k (cQ i)
def Ej (cQ:Nat→List Nat) (L:Nat) (W:List Nat) (j:Nat) (x:lJ):Nat→List lJ→Bool
 | _,[]=>true
 | i,y :: l=>(Nat.beq i j || L.testBit i || iJ j (cQ i) || (rN x y&&y.lo.all fun e=>iJ e W))&&Ej cQ L W j x (i+1) l
def Ek (I:List lJ) (C:List Nat):Bool:=C.all fun k=>match nth I k with
 | some x=>x.n
 | none=>false
def jQ (I:List lJ) (N:Nat) (cQ:Nat→List Nat) (cf:List (List Nat)):DT→Nat→List Nat→Nat→Option (List Nat)→Bool
 | .done,_,_,L,none=>Nat.beq L N
 | .take j C' t,n+1,C,L,none=>match nth I j,nth cf j with
  | some x,some c=>match x.dst with
   | none=>false
   | some d=>x.n&&!iJ d x.lo&&(C.all fun k=>match nth I k with
     | none=>false
     | some y=>!iJ d y.lo&&(match y.dst with | some e=>!Nat.beq e d | none=>true)) &&
    c.all (fun i=>L.testBit i)&&!L.testBit j&&x.pr.all (fun e=>L.testBit e)&&Ek I C' &&
    zr (L ||| 2 ^ j) fun L'=>tH I cQ L' (j :: C) C'&&jQ I N cQ cf t n C' L' none
  | _,_=>false
 | .br i re C' t more,n+1,C,L,left=>match nth I i with
  | none=>false
  | some y=>(match left with
   | none=>fun (K:List Nat→Bool)=>xZ (lK L 0 I) K
   | some l=>fun K=>K l) fun l=>
    Me I cQ C re i y&&Ek I C'&&iJ i l&&(zr (L ||| 2 ^ i) fun L'=>tH I cQ L' C C'&&jQ I N cQ cf t n C' L' none) &&
     jQ I N cQ cf more (n+1) C L (some (l.filter fun k=>!Nat.beq k i))
 | .stop,_,_,_,some l=>l.isEmpty
 | .al j W t,n+1,C,L,none=>match nth I j with
  | some x=>match x.dst with
   | none=>false
   | some _=>C.isEmpty&&x.a&&!L.testBit j&&x.pr.all (fun e=>L.testBit e)&&Ej cQ L W j x 0 I&&zr (L ||| 2 ^ j) fun L'=>jQ I N cQ cf t n [] L' none
  | none=>false
 | _,_,_,_,_=>false
def yd (E:Env) (f:FuncId) (ops:List Oper):List Nat→St→Prop
 | [],_=>True
 | k :: l,s=>(match nth ops k with
  | some ok=>CS E f ops ok s
  | none=>True)∧yd E f ops l s
def qV (E:Env) (f:FuncId) (ops:List Oper):DT→(St→Prop)→St→Prop
 | .done,K,s=>K s
 | .take j _ t,K,s=>match nth ops j with
  | some oj=>bS E f ops oj (qV E f ops t K) s
  | none=>False
 | .br i re _ t more,K,s=>(match nth ops i with
  | some oi=>bS E f ops oi (fun s'=>yd E f ops re s'∧qV E f ops t K s') s
  | none=>False)∧qV E f ops more K s
 | .stop,_,_=>True
 | .al j W t,K,s=>match nth ops j with
  | some oj=>Nz E f oj W s=true∧bS E f ops oj (qV E f ops t K) s
  | none=>False
def Hr (l:List (List Nat)) (i:Nat):List Nat:=match nth l i with
 | some a=>a
 | none=>[]
section
variable {E:Env} {s t:St} {f:FuncId} {ops:Array Oper} {K:St→Prop} {cQ:Nat→List Nat}
theorem dY {x:Nat}:∀ {l:List Nat},iJ x l=true↔x∈l
 | []=>by simp [iJ]
 | y :: l=>by simp [iJ,dY (l:=l)]
theorem lL {α:Type} (n:Nat) (K:Nat→α):zr n K=K n:=by cases n <;> rfl
theorem vd {α:Type}:∀ (l:List Nat) (K:List Nat→α),xZ l K=K l
 | [],_=>rfl
 | a :: l,K=>by simp only [xZ,lL]; rw [vd]
theorem Kb {α:Type} (i:lJ) (K:lJ→α):NA i K=K i:=by
 obtain ⟨d,lo,pr,n,r,a⟩:=i
 cases d <;> cases n <;> cases r <;> cases a <;> simp [NA,vd,lL]
theorem Bd {α:Type}:∀ (l:List lJ) (K:List lJ→α),Ei l K=K l
 | [],_=>rfl
 | a :: l,K=>by simp only [Ei,Kb]; rw [Bd]
def jA (ops:Array Oper):List lJ:=ops.toList.map (jz ops)
theorem qe {k:Nat} {x:lJ} (h:nth (jA ops) k=some x):∃ o,ops[k]?=some o∧x=jz ops o:=by
 rw [aE,jA,List.getElem?_map,Array.getElem?_toList] at h
 cases ho:ops[k]? with
 | none=>rw [ho] at h; cases h
 | some o=>rw [ho] at h; exact ⟨o,rfl,by simpa using h.symm⟩
theorem gN {e:Nat}:∀ {l:List Edge},e∈nD l↔∃ ed∈l,Region.binds .any ed=true∧ed.on=e
 | []=>by simp [nD]
 | x :: l=>by
  unfold nD
  cases hb:Region.binds .any x with
  | true=>
   simp only [cond_true,List.mem_cons,gN (l:=l),exists_eq_or_imp,hb,true_and]
   constructor
   ·rintro (h | h)
    ·exact .inl h.symm
    ·exact .inr h
   ·rintro (h | h)
    ·exact .inl h.symm
    ·exact .inr h
  | false=>simp only [cond_false,List.mem_cons,gN (l:=l),exists_eq_or_imp,hb,false_and,false_or,Bool.false_eq_true]
theorem ye {x y:Oper} (h:rN (jz ops x) (jz ops y)=true):x.apart ops y=true:=by
 have hm:∀ (d:Nat) (l:List Nat),iJ d l=false→l.contains d=false:=fun d l h=>by
  cases hc:l.contains d with
  | false=>rfl
  | true=>rw [dY.2 (by simpa using hc)] at h; cases h
 unfold rN at h
 unfold Oper.apart
 simp only [jz,Bool.and_eq_true] at h ⊢
 refine ⟨?_,?_⟩
 ·cases hx:x.dst with
  | none=>rfl
  | some d=>
   rw [hx] at h
   simp only [Bool.and_eq_true,Bool.not_eq_true'] at h ⊢
   refine ⟨hm _ _ h.1.1,?_⟩
   have h2:=h.1.2
   cases hy:y.dst with
   | none=>rfl
   | some e=>
    rw [hy] at h2
    simp only [Bool.not_eq_true'] at h2
    have:e≠d:=fun k=>by rw [k,pA] at h2; cases h2
    simpa using this
 ·cases hy:y.dst with
  | none=>rfl
  | some d=>
   rw [hy] at h
   simp only [Bool.not_eq_true'] at h ⊢
   exact hm _ _ h.2
def Be (ops:Array Oper) (L:Nat) (listed:Array Bool):Prop:=listed.size=ops.size∧∀ i,i < ops.size→listed[i]?=some (L.testBit i)
theorem Be.add {L:Nat} {listed:Array Bool} (h:Be ops L listed) (j:Nat):Be ops (L ||| 2 ^ j) (listed.setIfInBounds j true):=by
 refine ⟨by simp [h.1],fun i hi=>?_⟩
 rw [Nat.testBit_or,Nat.testBit_two_pow]
 by_cases e:j=i
 ·subst e
  rw [Array.getElem?_setIfInBounds_self_of_lt (by rw [h.1]; exact hi)]
  simp
 ·rw [Array.getElem?_setIfInBounds_ne e,h.2 i hi]
  simp [e]
theorem Be.Bf {L:Nat} {listed:Array Bool} (h:Be ops L listed) {i:Nat} (hi:i < ops.size) (b:Bool):listed.getD i b=L.testBit i:=by
 rw [Array.getD_eq_getD_getElem?,h.2 i hi]; rfl
theorem oP {L:Nat} {listed:Array Bool} (h:Be ops L listed) {j:Nat} {o:Oper} (ho:ops[j]?=some o) (h1:L.testBit j=false) (h2:((jz ops o).pr.all fun e=>L.testBit e)=true)
  (bM:∀ e∈o.after,Region.binds .any e=true→e.on < ops.size):j∈Region.ready .any ops listed:=by
 have hj:j < ops.size:=(Array.getElem?_eq_some_iff.1 ho).1
 refine mem_ready.2 ⟨by rw [h.Bf hj]; exact h1,o,ho,fun e he hb=>?_⟩
 rw [h.Bf (bM e he hb)]
 exact List.all_eq_true.1 h2 e.on (gN.2 ⟨e,by simpa using he,hb,rfl⟩)
def NB (n:Nat) (I:List lJ):Bool:=I.all fun x=>x.pr.all fun e=>Nat.blt e n
theorem fH {k:Nat} {o:Oper} (h:ops[k]?=some o):nth (jA ops) k=some (jz ops o):=by
 rw [aE,jA,List.getElem?_map,Array.getElem?_toList,h]; rfl
theorem jB {k:Nat} {o:Oper} (h:ops[k]?=some o):(jA ops)[k]?=some (jz ops o):=by
 rw [← aE]; exact fH h
theorem nG (h:NB ops.size (jA ops)=true) {k:Nat} {o:Oper} (ho:ops[k]?=some o):∀ e∈o.after,Region.binds .any e=true→e.on < ops.size:=fun e he hb=>by
 have h1:=List.all_eq_true.1 h (jz ops o) (List.mem_of_getElem? (jB ho))
 have h2:=List.all_eq_true.1 h1 e.on (gN.2 ⟨e,by simpa using he,hb,rfl⟩)
 exact Nat.le_of_ble_eq_true h2
theorem vf {j:Nat} {x:lJ} {c:List Nat}:∀ {l:List lJ} {i:Nat},Bb j x c i l=true→∀ k y,l[k]?=some y→(Nat.beq (i+k) j || iJ j y.pr || iJ (i+k) c || rN x y)=true
 | [],_,_,k,y,hk=>by simp at hk
 | z :: l,i,h,k,y,hk=>by
  unfold Bb at h
  rw [Bool.and_eq_true] at h
  cases k with
  | zero=>simp at hk; subst hk; exact h.1
  | succ k=>
   have:=vf h.2 k y (by simpa using hk)
   rw [show i+1+k=i+(k+1) by omega] at this
   exact this
theorem vg {I:List lJ}:∀ {l:List lJ} {j:Nat} {cs:List (List Nat)},Bc I j l cs=true→∀ k x c,l[k]?=some x→cs[k]?=some c→x.n=true→Bb (j+k) x c 0 I=true
 | [],_,_,_,k,x,c,hk,_,_=>by simp at hk
 | z :: l,j,[],_,k,x,c,_,hc,_=>by simp at hc
 | z :: l,j,d :: cs,h,k,x,c,hk,hc,hn=>by
  unfold Bc at h
  rw [Bool.and_eq_true] at h
  cases k with
  | zero=>
   simp at hk hc
   subst hk hc
   have:=h.1
   rw [hn] at this
   simpa using this
  | succ k=>
   have:=vg h.2 k x c (by simpa using hk) (by simpa using hc) hn
   rw [show j+1+k=j+(k+1) by omega] at this
   exact this
theorem sE:∀ {l:List lJ} {i:Nat},vc cQ i l=true→∀ k x,l[k]?=some x→∀ a∈cQ (i+k),∃ e∈x.pr,e=a∨a∈cQ e
 | [],_,_,k,x,hk=>by simp at hk
 | z :: l,i,h,k,x,hk=>by
  unfold vc at h
  rw [Bool.and_eq_true] at h
  cases k with
  | zero=>
   simp at hk
   subst hk
   intro a ha
   have h1:=List.all_eq_true.1 h.1 a ha
   obtain ⟨e,he,h2⟩:=List.any_eq_true.1 h1
   rw [Bool.or_eq_true] at h2
   refine ⟨e,he,?_⟩
   rcases h2 with h2 | h2
   ·exact .inl (Nat.eq_of_beq_eq_true h2)
   ·exact .inr (dY.1 h2)
  | succ k=>
   have:=sE h.2 k x (by simpa using hk)
   rw [show i+1+k=i+(k+1) by omega] at this
   exact this
theorem C1 (h:vc cQ 0 (jA ops)=true):xY ops cQ:=fun i oi a hi ha=>by
 have h1:=sE h i _ (jB hi) a (by rw [Nat.zero_add]; exact ha)
 obtain ⟨e,he,h2⟩:=h1
 obtain ⟨ed,q1,q2,rfl⟩:=gN.1 he
 exact ⟨ed,by simpa using q1,q2,h2⟩
theorem mM {L:Nat}:∀ {l:List lJ} {i k:Nat},k∈lK L i l↔∃ j x,k=i+j∧l[j]?=some x∧L.testBit k=false∧(x.pr.all fun e=>L.testBit e)=true
 | [],i,k=>by simp [lK]
 | z :: l,i,k=>by
  have ih:=mM (L:=L) (l:=l) (i:=i+1) (k:=k)
  have rest:(∃ j x,k=i+1+j∧l[j]?=some x∧L.testBit k=false∧(x.pr.all fun e=>L.testBit e)=true)↔∃ j x,k=i+(j+1)∧(z :: l)[j+1]?=some x∧L.testBit k=false∧(x.pr.all fun e=>L.testBit e)=true:=by
   constructor
   ·rintro ⟨j,x,h1,h2⟩; exact ⟨j,x,by omega,by simpa using h2⟩
   ·rintro ⟨j,x,h1,h2⟩; exact ⟨j,x,by omega,by simpa using h2⟩
  unfold lK
  cases hc:(!L.testBit i&&z.pr.all fun e=>L.testBit e) with
  | true=>
   simp only [cond_true,List.mem_cons,ih,rest]
   rw [Bool.and_eq_true,Bool.not_eq_true'] at hc
   constructor
   ·rintro (rfl | ⟨j,x,h⟩)
    ·exact ⟨0,z,rfl,rfl,hc⟩
    ·exact ⟨j+1,x,h⟩
   ·rintro ⟨j,x,h1,h2⟩
    cases j with
    | zero=>exact .inl h1
    | succ j=>exact .inr ⟨j,x,h1,h2⟩
  | false=>
   simp only [cond_false,ih,rest]
   constructor
   ·rintro ⟨j,x,h⟩; exact ⟨j+1,x,h⟩
   ·rintro ⟨j,x,h1,h2,h3,h4⟩
    cases j with
    | zero=>
     simp at h2 h1
     subst h1 h2
     rw [h3,h4] at hc
     cases hc
    | succ j=>exact ⟨j,x,h1,h2,h3,h4⟩
theorem mN {L k:Nat} {x:lJ}:∀ {l:List lJ} {i:Nat},nF cQ L k x i l=true→∀ j y,l[j]?=some y→L.testBit (i+j)=false→nE x y=true→k∈cQ (i+j)
 | [],_,_,j,y,hj=>by simp at hj
 | z :: l,i,h,j,y,hj=>by
  unfold nF at h
  rw [Bool.and_eq_true] at h
  cases j with
  | zero=>
   simp at hj
   subst hj
   intro h1 h2
   have h3:=h.1
   rw [Nat.add_zero] at h1
   rw [h1,h2] at h3
   exact dY.1 (by simpa using h3)
  | succ j=>
   have:=mN h.2 j y (by simpa using hj)
   rw [show i+1+j=i+(j+1) by omega] at this
   exact this
theorem sF {L:Nat} {listed:Array Bool} (hM:Be ops L listed) {C C':List Nat} (h:tH (jA ops) cQ L C C'=true):∀ k∈C,k∈C'∨∀ i ok oi,ops[k]?=some ok→ops[i]?=some oi→listed.getD i true=false→hZ ok oi=true→k∈cQ i:=fun k hk=>by
 have h1:=List.all_eq_true.1 h k hk
 rw [Bool.or_eq_true] at h1
 rcases h1 with h1 | h1
 ·exact .inl (dY.1 h1)
 ·refine .inr fun i ok oi q1 q2 q3 q4=>?_
  rw [fH q1] at h1
  have hi:i < ops.size:=(Array.getElem?_eq_some_iff.1 q2).1
  have:=mN h1 i _ (jB q2) (by rw [Nat.zero_add,← hM.Bf hi]; exact q3) q4
  rw [Nat.zero_add] at this
  exact this
theorem yf {C:List Nat} (h:Ek (jA ops) C=true):NC ops C:=fun k hk ok cM=>by
 have:=List.all_eq_true.1 h k hk
 rw [fH cM] at this
 exact this
theorem vh {L j:Nat} {x:lJ} {W:List Nat}:∀ {l:List lJ} {i:Nat},Ej cQ L W j x i l=true→∀ k y,l[k]?=some y→(Nat.beq (i+k) j || L.testBit (i+k) || iJ j (cQ (i+k)) || (rN x y&&y.lo.all fun e=>iJ e W))=true
 | [],_,_,k,y,hk=>by simp at hk
 | z :: l,i,h,k,y,hk=>by
  unfold Ej at h
  rw [Bool.and_eq_true] at h
  cases k with
  | zero=>simp at hk; subst hk; exact h.1
  | succ k=>
   have:=vh h.2 k y (by simpa using hk)
   rw [show i+1+k=i+(k+1) by omega] at this
   exact this
theorem vi {d:Nat} {s:aV}:∀ {l:List Nat},Eh d s l=true→∀ e∈l,∀ off,lk s e≠.lp d off
 | [],_,e,he,_=>by cases he
 | a :: l,h,e,he,off=>by
  unfold Eh at h
  rw [Bool.and_eq_true] at h
  rcases List.mem_cons.1 he with rfl | he
  ·intro hv
   have h1:=h.1
   rw [hv] at h1
   simp only [pA] at h1
   cases h1
  ·exact vi h.2 e he off
theorem mO {cf:List (List Nat)} (hA:xY ops cQ) (hP:NB ops.size (jA ops)=true) (hF:Bc (jA ops) 0 (jA ops) cf=true) (hK:Inv K):∀ (T:DT) (n:Nat) (C:List Nat) (listed:Array Bool) (L:Nat),NC ops C→lI cQ listed→Be ops L listed →
  (jQ (jA ops) (2 ^ ops.size - 1) cQ cf T n C L none=true→∀ s,qV E f ops.toList T K s→eK E f ops cQ C K n listed s) ∧
  (∀ m l,n=m+1→jQ (jA ops) (2 ^ ops.size - 1) cQ cf T n C L (some l)=true→∀ s,qV E f ops.toList T K s→∀ i∈l,i∈Region.ready .any ops listed→∀ oi,ops[i]?=some oi →
   bS E f ops.toList oi (fun s'=>CZ E f ops cQ C i s'∧eK E f ops cQ C K m (listed.setIfInBounds i true) s') s)
 | .done,n,C,listed,L,hC,gd,hM=>by
  refine ⟨fun h s hs=>?_,fun m l _ h=>by simp [jQ] at h⟩
  have hL:L=2 ^ ops.size - 1:=Nat.eq_of_beq_eq_true (by simpa only [jQ] using h)
  have hr:Region.ready .any ops listed=[]:=by
   apply List.eq_nil_iff_forall_not_mem.2
   intro j hj
   obtain ⟨h1,o,ho,_⟩:=mem_ready.1 hj
   have bM:j < ops.size:=(Array.getElem?_eq_some_iff.1 ho).1
   rw [hM.Bf bM,hL,Nat.testBit_two_pow_sub_one] at h1
   simp [bM] at h1
  cases n with
  | zero=>exact ⟨hr,hs⟩
  | succ n=>exact ⟨fun _=>hs,fun i hi=>by rw [hr] at hi; simp at hi⟩
 | .stop,n,C,listed,L,hC,gd,hM=>by
  refine ⟨fun h=>by cases n <;> simp [jQ] at h,fun m l e h s _ i hi=>?_⟩
  subst e
  have:l=[]:=by simpa [jQ] using h
  rw [this] at hi
  simp at hi
 | .al j W T,0,C,listed,L,hC,gd,hM=>⟨fun h=>by simp [jQ] at h,fun m l e=>by cases e⟩
 | .al j W T,n+1,C,listed,L,hC,gd,hM=>by
  refine ⟨fun h s hs=>?_,fun m l _ h=>by simp [jQ] at h⟩
  unfold jQ at h
  split at h
  ·rename_i x hx
   obtain ⟨oj,hj,rfl⟩:=qe hx
   split at h
   ·cases h
   ·rename_i d hd
    simp only [lL,Bool.and_eq_true] at h
    obtain ⟨⟨⟨⟨⟨UP,Fs⟩,hbit⟩,Rs⟩,iW⟩,hT⟩:=h
    have UP:C=[]:=by simpa using UP
    subst UP
    have Fs:bN oj.op=true:=Fs
    have hd:oj.dst=some d:=hd
    have vj:j∈Region.ready .any ops listed:=oP hM hj (by simpa using hbit) Rs (nG hP hj)
    obtain ⟨ih,_⟩:=mO hA hP hF hK T n [] (listed.setIfInBounds j true) (L ||| 2 ^ j) (fun k hk=>by cases hk) (gd.add hA vj) (hM.add j)
    unfold qV at hs
    rw [aE,Array.getElem?_toList,hj] at hs
    simp only at hs
    obtain ⟨cM,hs⟩:=hs
    unfold Nz at cM
    split at cM
    ·rename_i _ d' hg DR
     rw [hd] at DR
     cases DR
     rw [Bool.and_eq_true] at cM
     have Ny:E.tW f d=false:=by simpa using cM.1
     have F8:bS E f ops.toList oj (eK E f ops cQ [] K n (listed.setIfInBounds j true)) s:=bT hs fun s' h'=>ih hT s' h'
     unfold bS at F8
     rw [hg] at F8
     obtain ⟨s1,q1,q2⟩:=(Ef Fs).1 F8
     refine Hq hA hK hj hg hd Fs Ny n listed s s1 gd (fun i oi hi bW Ho my=>?_) vj q1 q2
     have fw:=vh iW i _ (jB hi)
     rw [Nat.zero_add] at fw
     simp only [Bool.or_eq_true] at fw
     have ND:i < ops.size:=(Array.getElem?_eq_some_iff.1 hi).1
     rcases fw with ((h1 | h1) | h1) | h1
     ·exact absurd (Nat.eq_of_beq_eq_true h1) bW
     ·rw [hM.Bf ND,h1] at Ho; cases Ho
     ·exact absurd (dY.1 h1) my
     ·rw [Bool.and_eq_true] at h1
      exact ⟨ye h1.1,fun e he off=>vi cM.2 e (dY.1 (List.all_eq_true.1 h1.2 e he)) off⟩
    ·cases cM
  ·cases h
 | .take j C' T,0,C,listed,L,hC,gd,hM=>⟨fun h=>by simp [jQ] at h,fun m l e=>by cases e⟩
 | .take j C' T,n+1,C,listed,L,hC,gd,hM=>by
  refine ⟨fun h s hs=>?_,fun m l _ h=>by simp [jQ] at h⟩
  unfold jQ at h
  split at h
  ·rename_i x c hx hc
   obtain ⟨oj,hj,rfl⟩:=qe hx
   split at h
   ·cases h
   ·rename_i d hd
    simp only [lL,Bool.and_eq_true] at h
    obtain ⟨⟨⟨⟨⟨⟨⟨hN,A8⟩,UL⟩,hcf⟩,hbit⟩,Rs⟩,mL⟩,NE,hT⟩:=h
    have hN:qU oj.op=true:=hN
    have hd:oj.dst=some d:=hd
    have vj:j∈Region.ready .any ops listed:=oP hM hj (by simpa using hbit) Rs (nG hP hj)
    have GN:∀ {d:Nat} {l:List Nat},(!iJ d l)=true→d∉l:=fun h hm=>by rw [dY.2 hm] at h; cases h
    have NF:d∉oj.looksAt ops:=GN A8
    have UQ:∀ k∈C,∀ ok,ops[k]?=some ok→d∉ok.looksAt ops∧ok.dst≠some d:=fun k hk ok cM=>by
     have:=List.all_eq_true.1 UL k hk
     rw [fH cM] at this
     simp only [Bool.and_eq_true] at this
     refine ⟨GN this.1,fun e=>?_⟩
     have h2:=this.2
     simp only [jz,e,pA] at h2
     cases h2
    have Jo:NC ops (j :: C):=fun k hk ok ho=>by
     rcases List.mem_cons.1 hk with rfl | hk
     ·rw [hj] at ho; cases ho; exact hN
     ·exact hC k hk ok ho
    have UR:=gd.add hA vj
    obtain ⟨ih,_⟩:=mO hA hP hF hK T n C' (listed.setIfInBounds j true) (L ||| 2 ^ j) (yf mL) UR (hM.add j)
    unfold qV at hs
    rw [aE,Array.getElem?_toList,hj] at hs
    simp only at hs
    have F8:bS E f ops.toList oj (eK E f ops cQ (j :: C) K n (listed.setIfInBounds j true)) s:=bT hs fun s' h'=>lH n _ _ (sF (hM.add j) NE) (ih hT s' h')
    obtain ⟨x,sW,hk⟩:=u5 hN (fX Jo hK _ _) F8
    rw [hd] at hk
    refine C0 hA hC hK hj hN hd NF UQ n listed s x gd (fun i oi hi bW Ho my=>?_) vj sW hk
    have iW:=vg hF j _ c (jB hj) (by rw [← aE]; exact hc) hN
    have fw:=vf iW i _ (jB hi)
    rw [Nat.zero_add,Nat.zero_add] at fw
    simp only [Bool.or_eq_true] at fw
    have ND:i < ops.size:=(Array.getElem?_eq_some_iff.1 hi).1
    rcases fw with ((h1 | h1) | h1) | h1
    ·exact absurd (Nat.eq_of_beq_eq_true h1) bW
    ·obtain ⟨e,q1,q2,q3⟩:=gN.1 (dY.1 h1)
     exact absurd q3 (my e (by simpa using q1) q2)
    ·have:=List.all_eq_true.1 hcf i (dY.1 h1)
     rw [hM.Bf ND,this] at Ho
     cases Ho
    ·exact ye h1
  ·cases h
 | .br i re C' T more,0,C,listed,L,hC,gd,hM=>⟨fun h=>by simp [jQ] at h,fun m l e=>by cases e⟩
 | .br i re C' T more,n+1,C,listed,L,hC,gd,hM=>by
  have main:∀ left l,(match left with | none=>lK L 0 (jA ops) | some l=>l)=l→jQ (jA ops) (2 ^ ops.size - 1) cQ cf (.br i re C' T more) (n+1) C L left=true→∀ s,qV E f ops.toList (.br i re C' T more) K s→i∈l∧∀ k∈l,k∈Region.ready .any ops listed→∀ ok,ops[k]?=some ok →
    bS E f ops.toList ok (fun s'=>CZ E f ops cQ C k s'∧eK E f ops cQ C K n (listed.setIfInBounds k true) s') s:=by
   intro left l hl h s hs
   unfold jQ at h
   split at h
   ·cases h
   ·rename_i y hy
    obtain ⟨oi,qd,rfl⟩:=qe hy
    have h:(Me (jA ops) cQ C re i (jz ops oi)&&Ek (jA ops) C'&&iJ i l&&(tH (jA ops) cQ (L ||| 2 ^ i) C C'&&jQ (jA ops) (2 ^ ops.size - 1) cQ cf T n C' (L ||| 2 ^ i) none) &&
     jQ (jA ops) (2 ^ ops.size - 1) cQ cf more (n+1) C L (some (l.filter fun k=>!Nat.beq k i)))=true:=by
     cases left with
     | none=>simp only at hl; subst hl; simp only [vd,lL] at h; exact h
     | some l'=>simp only at hl; subst hl; simp only [lL] at h; exact h
    simp only [Bool.and_eq_true] at h
    obtain ⟨⟨⟨⟨M5,mL⟩,uA⟩,NE,hT⟩,hmore⟩:=h
    unfold qV at hs
    refine ⟨dY.1 uA,fun k hk To ok cM=>?_⟩
    by_cases e:k=i
    ·subst e
     rw [qd] at cM
     cases cM
     obtain ⟨ih,_⟩:=mO hA hP hF hK T n C' (listed.setIfInBounds k true) (L ||| 2 ^ k) (yf mL) (gd.add hA To) (hM.add k)
     have h1:=hs.1
     rw [aE,Array.getElem?_toList,qd] at h1
     refine bT h1 fun s' h'=>⟨fun c hc oc Md q1 q2 q3 q4=>?_,lH n _ _ (sF (hM.add k) NE) (ih hT s' h'.2)⟩
     rw [qd] at q2
     cases q2
     have BV:=List.all_eq_true.1 M5 c hc
     rw [fH q1] at BV
     have Yy:nE (jz ops oc) (jz ops oi)=true:=q3
     simp only [Yy,Bool.not_true,Bool.false_or,Bool.or_eq_true] at BV
     rcases BV with BV | BV
     ·have hm:c∈re:=dY.1 BV
      have:∀ (re:List Nat),c∈re→yd E f ops.toList re s'→CS E f ops.toList oc s':=by
       intro re
       induction re with
       | nil=>intro hm; simp at hm
       | cons a re ihr=>
        intro hm ha
        rcases List.mem_cons.1 hm with rfl | hm
        ·have:=ha.1
         rw [aE,Array.getElem?_toList,q1] at this
         exact this
        ·exact ihr hm ha.2
      exact this re hm h'.1
     ·exact absurd (dY.1 BV) q4
    ·obtain ⟨_,ih⟩:=mO hA hP hF hK more (n+1) C listed L hC gd hM
     refine ih n _ rfl hmore s hs.2 k ?_ To ok cM
     rw [List.mem_filter]
     exact ⟨hk,by rw [lq e]; rfl⟩
  refine ⟨fun h s hs=>?_,fun m l e h s hs k hk To ok cM=>?_⟩
  ·obtain ⟨m1,m2⟩:=main none _ rfl h s hs
   have back:∀ k,k∈lK L 0 (jA ops)→k∈Region.ready .any ops listed:=fun k hk=>by
    obtain ⟨j,x,q1,q2,q3,q4⟩:=mM.1 hk
    rw [Nat.zero_add] at q1
    subst q1
    rw [← aE] at q2
    obtain ⟨o,ho,rfl⟩:=qe q2
    exact oP hM ho q3 q4 (nG hP ho)
   have Rt:∀ k,k∈Region.ready .any ops listed→k∈lK L 0 (jA ops):=fun k hk=>by
    obtain ⟨h1,o,ho,mL⟩:=mem_ready.1 hk
    have bM:k < ops.size:=(Array.getElem?_eq_some_iff.1 ho).1
    refine mM.2 ⟨k,jz ops o,by omega,jB ho,by rw [← hM.Bf bM]; exact h1,List.all_eq_true.2 fun e he=>?_⟩
    obtain ⟨ed,q1,q2,rfl⟩:=gN.1 he
    have h2:=mL ed (by simpa using q1) q2
    rw [hM.Bf (nG hP ho ed (by simpa using q1) q2)] at h2
    exact h2
   refine ⟨fun h0=>?_,fun k hk ok cM=>m2 k (Rt k hk) hk ok cM⟩
   have:=back i m1
   rw [h0] at this
   simp at this
  ·cases e
   exact (main (some l) l rfl h s hs).2 k hk To ok cM
theorem vk {R:af} {w:World} {β:Nat→Nat} {F:Fence} {Qc:Exit→Act→World→Prop} {C:List Nat} (hQ:∀ a' w',mH E R w β s K a' w'→Qc .normal a' w') :
  ∀ (n:Nat) (listed:Array Bool) (R1:af) (w1:World) (β1:Nat→Nat) (s1:St) (a1:Act),aL E R1 w1 β1 s1 a1→Step R w β s.boxes R1 w1 β1 s1.boxes→s1.ro=s.ro→bB R1 s1.ro F →
   eK E f ops cQ C K n listed s1→wpAnyIn F 0 E.P .any ops Qc n listed a1 w1
 | 0,listed,R1,w1,β1,s1,a1,hr,fF,aR,_,ha=>⟨ha.1,hQ _ _ ⟨s1,R1,β1,ha.2,hr,fF,aR⟩⟩
 | n+1,listed,R1,w1,β1,s1,a1,hr,fF,aR,hf,ha=>by
  refine ⟨fun h0=>hQ _ _ ⟨s1,R1,β1,ha.1 h0,hr,fF,aR⟩,fun i hi=>?_⟩
  obtain ⟨_,o,ho,_⟩:=mem_ready.1 hi
  unfold wpOpIn
  simp only [ho]
  refine pZ hr hf (ha.2 i hi o ho) _ ?_
  rintro a' w' ⟨s',R',β',q1,q2,q3,q4⟩
  exact vk hQ n _ R' w' β' s' a' q2 (fF.trans q3) (q4.trans aR) (by rw [q4]; exact hf.mono q3.ext) q1.2
theorem eG {K':St→Prop} (hK:∀ s,K s→K' s):∀ (T:DT) (s:St),qV E f ops.toList T K s→qV E f ops.toList T K' s
 | .done,s,h=>hK s h
 | .stop,_,_=>trivial
 | .take j C T,s,h=>by
  unfold qV at h ⊢
  split
  ·rename_i oj hj
   rw [hj] at h
   exact bT h fun s' h'=>eG hK T s' h'
  ·rename_i hj
   rw [hj] at h
   exact h
 | .al j W T,s,h=>by
  unfold qV at h ⊢
  split
  ·rename_i oj hj
   rw [hj] at h
   exact ⟨h.1,bT h.2 fun s' h'=>eG hK T s' h'⟩
  ·rename_i hj
   rw [hj] at h
   exact h
 | .br i re C T more,s,h=>by
  unfold qV at h ⊢
  refine ⟨?_,eG hK more s h.2⟩
  have h:=h.1
  split
  ·rename_i oj hj
   rw [hj] at h
   exact bT h fun s' h'=>⟨h'.1,eG hK T s' h'.2⟩
  ·rename_i hj
   rw [hj] at h
   exact h
structure ai where
 cQ:List (List Nat)
 cf:List (List Nat)
 T:DT
def C2 (ops:Array Oper) (p:ai):Bool:=Ei (ops.toList.map (jz ops)) fun I=>
 zr ops.size fun n=>zr (2 ^ n - 1) fun N=>vc (Hr p.cQ) 0 I&&NB n I&&Bc I 0 I p.cf&&jQ I N (Hr p.cQ) p.cf p.T n [] 0 none
theorem aL.drawn {R:af} {w:World} {β:Nat→Nat} {a:Act} (h:aL E R w β s a):aL E R { w with drawn:=w.drawn+1 } β s a∧Step R w β s.boxes R { w with drawn:=w.drawn+1 } β s.boxes:=by
 have e:Ext R w R { w with drawn:=w.drawn+1 }:=⟨fun _ _ h=>h,fun _ _ _=>rfl,fun _ ro h=>⟨ro,h,bI.refl ro⟩,dI.refl w⟩
 refine ⟨⟨⟨h.g.len,fun id go ro h1 h2=>(h.g.obj id go ro h1 h2).mono e (fun _ _=>rfl) (fun _ _ _ h=>h),h.g.inj,h.g.wf,fun g cs hg=>(h.g.cG g cs hg).mono e,Nat.le_succ_of_le h.g.lo⟩,?_,h.t.mono e,h.n,h.d⟩,?_⟩
 ·exact h.b.bl e (fun _ _ _=>rfl) (fun _ _ _ _ h=>h) (fun _ _ _ h=>h)
 ·exact ⟨e,rfl,rfl,rfl,Nat.le_refl _,fun _ _ _=>rfl,fun _ _ h=>h,fun _ _ h _ _=>h⟩
theorem ec.draw {id:Nat} {p:ai} {Q:Exit→St→Prop} (cM:C2 ops p=true) (h:qV E f ops.toList p.T (Q .normal) s):ec E (.region id ops true) Q s:=fun R w β a F hr hf=>by
 simp only [C2,Bd,lL,Bool.and_eq_true] at cM
 obtain ⟨⟨⟨hA,hP⟩,hF⟩,hT⟩:=cM
 refine wpIn_region_any E.mixed ?_
 obtain ⟨q1,q2⟩:=hr.drawn
 have hK:Inv (fun s=>∃ u,nB u s∧Q .normal u):=fun s t e ⟨u,h1,h2⟩=>⟨u,h1.trans e,h2⟩
 have h':=eG (K':=fun s=>∃ u,nB u s∧Q .normal u) (fun s h=>⟨s,nB.refl s,h⟩) p.T s h
 have gd:lI (Hr p.cQ) (Array.replicate ops.size false):=fun i hi=>by
  rw [Array.getD_eq_getD_getElem?,Array.getElem?_replicate] at hi
  split at hi <;> cases hi
 have NG:=(mO (E:=E) (f:=f) (C1 hA) hP hF hK p.T ops.size [] (Array.replicate ops.size false) 0 (fun k hk=>by simp at hk) gd ⟨by simp,fun i hi=>by simp [hi]⟩).1 hT s h'
 refine vk (R:=R) (w:=w) (β:=β) (s:=s) (f:=f) (K:=fun s=>∃ u,nB u s∧Q .normal u) ?_ _ _ R _ β s a q1 q2 rfl hf NG
 rintro a' w' ⟨s',R',β',⟨u,e,hu⟩,h2,h3,h4⟩
 exact ⟨u,R',β',hu,h2.eqv e.symm,h3.eqv rfl e.symm.b,e.ro.trans h4⟩
end
end Go.Am
