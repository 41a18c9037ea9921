/- The abstract machine: states that answer alike; operations that commute. -/
import Derived.Test.YtegoimldbgdeiaaGreatAmKG
set_option linter.all false
open Array renaming getElem?_eq_some_iff→aaF, getElem?_toList→aaG, getD_eq_getD_getElem?→abu, setIfInBounds_comm→abK
open Bool renaming and_eq_true→aah, or_eq_true→abv, not_eq_true'→abx, false_eq_true→abz
open Go.Call renaming operands→abA
open Go.Op renaming operands→aaa
open Go.Oper renaming apart_spec→abL
open Go.Region renaming ready→aaq, binds→abp
open List renaming cons_append→aag, nil_append→aak, all_eq_true→aar, mem_cons→abr, append_cancel_right→abw, mem_cons_of_mem→abN
open Nat renaming eq_of_beq_eq_true→aas, beq→aaN, zero_add→abt, blt→abJ
namespace Go.Am
open Go
structure vz (s t:St):Prop where
 l:lk s.ab=lk t.ab
 b:fh s.boxes=fh t.boxes
 G:s.G=t.G
 m:s.marks=t.marks
 ro:s.ro=t.ro
 n:s.n=t.n
theorem vz.refl (s:St):vz s s:=⟨rfl,rfl,rfl,rfl,rfl,rfl⟩
theorem vz.symm {s t:St} (h:vz s t):vz t s:=⟨h.l.symm,h.b.symm,h.G.symm,h.m.symm,h.ro.symm,h.n.symm⟩
theorem vz.trans {s t u:St} (h:vz s t) (k:vz t u):vz s u:=⟨h.l.trans k.l,h.b.trans k.b,h.G.trans k.G,h.m.trans k.m,h.ro.trans k.ro,h.n.trans k.n⟩
theorem rR {a b:bz} {e:Nat} (h:lk a e=lk b e):∀ pre:bz,lk (pre++a) e=lk (pre++b) e
 |[]=>h
 |.put d x :: pre=>by
  simp only [aag,lk];rw [rR h pre]
 |.kill d :: pre=>by
  simp only [aag,lk];rw [rR h pre]
theorem Db {a b:dX} {e:Nat} (h:fh a e=fh b e):∀ pre:dX,fh (pre++a) e=fh (pre++b) e
 |[]=>h
 |(d,x) :: pre=>by
  simp only [aag,fh];rw [Db h pre]
theorem vz.jg {s t:St} (h:vz s t) (pre:bz) (preB:dX) (G:List GO):vz (s.jg pre preB G) (t.jg pre preB G):=
 ⟨funext fun e=>rR (by rw [h.l]) pre,funext fun e=>Db (by rw [h.b]) preB,rfl,h.m,h.ro,h.n⟩
theorem R8 {E:Env} {a b:bz} {x:Operand} (h:∀ t,x=.tmp t→lk a t=lk b t):bO E a x=bO E b x:=by
 cases x with
 |tmp t=>exact h t rfl
 |_=>rfl
theorem vz.bO {E:Env} {s t:St} (h:vz s t) (x:Operand):bO E s.ab x=bO E t.ab x:=R8 fun e _=>by rw [h.l]
section KW
variable {E:Env} {R:aj} {w:World} {β:Nat→Nat} {s t:St} {a:Act}
theorem bi.eqv (h:bi E R w β s a) (e:vz s t):bi E R w β t a where
 g:=by rw [← e.G]; exact h.g
 b:=⟨fun k cs hk=>h.b.box k cs (by rw [e.b]; exact hk),fun k k' c c' h1 h2=>h.b.inj k k' c c' (by rw [e.b]; exact h1) (by rw [e.b]; exact h2)⟩
 t:=fun i hi=>by
  rw [← e.l] at hi ⊢;exact h.t i hi
 n:=by rw [← e.n]; exact h.n
 d:=by rw [← e.m]; exact h.d
theorem B7 {bx Nz:dX} (h:fh bx=fh Nz) {b:Nat} (k:Own R β bx b):Own R β Nz b:=by
 rcases k with k|⟨j,cs,h1,h2⟩
 ·exact .inl k
 ·exact .inr ⟨j,cs,by rw [← h]; exact h1,h2⟩
theorem Step.eqv {R':aj} {w':World} {β':Nat→Nat} {bx Nz cx cx':dX} (h:Step R w β bx R' w' β' Nz) (h1:fh bx=fh cx) (h2:fh Nz=fh cx'):Step R w β cx R' w' β' cx':=
 ⟨h.ext,h.os,h.tape,h.output,h.size,fun b hb hn=>h.bD b hb (fun ho=>hn (B7 h1 ho)),fun b hb ho=>B7 h1 (h.own b hb (B7 h2.symm ho)),fun b o hi hb hn=>h.im b o hi hb (fun ho=>hn (B7 h1 ho))⟩
end KW
section ops
variable {E:Env} {s t:St} {f:FuncId} {o:Oper} {K K':St→Prop}
def Inv (K:St→Prop):Prop:=∀ s t,vz s t→K s→K t
theorem Jf {op:Op} (h:zN op=true):cK op=false:=by
 cases op <;> simp_all [zN,cK]
theorem An (hn:s.n=t.n) (hG:s.G=t.G) (hB:fh s.boxes=fh t.boxes) (hY:∀ y∈o.op.operands,bO E s.ab y=bO E t.ab y) (h:ot E f o K s)
  (hK:∀ pre preB G,Pre (cK o.op) o.dst pre→(zN o.op=true→preB=[]∧G=s.G)→K (s.jg pre preB G)→K' (t.jg pre preB G)):ot E f o K' t:=by
 unfold ot at h ⊢;split at h
 ·rename_i x args tys ho;have h1:bO E s.ab x=bO E t.ab x:=hY x (by rw [ho]; simp [aaa,abA]);have h2:rk E s.ab args.toList=rk E t.ab args.toList:=kV fun y hy=>hY y (by rw [ho]; simp [aaa,abA]; exact .inr (by simpa using hy))
  try simp only [ho]
  rw [← h1,← h2,← hG];split at h
  ·refine eP.mono h fun r G' hk=>?_
   obtain ⟨pre,preB,G,p1,p2,p3,p4⟩:=cH.fH (s:=s) (t:=t) (al:=cK o.op) hn G' o.dst (.v r);rw [p3] at hk;rw [p4];exact hK pre preB G p1 (fun e=>by rw [ho] at e; simp [zN] at e) hk
  ·refine pg.mono h fun r G' hk=>?_
   obtain ⟨pre,preB,G,p1,p2,p3,p4⟩:=cH.fH (s:=s) (t:=t) (al:=cK o.op) hn G' o.dst (.v (.bool r));rw [p3] at hk;rw [p4];exact hK pre preB G p1 (fun e=>by rw [ho] at e; simp [zN] at e) hk
  ·exact h.elim
 ·exact h.elim
 ·split at h
  ·rename_i c s' hs;obtain ⟨t',h1,pre,preB,G,p1,p2,p3,p4⟩:=kW hn hG hB hY hs;rw [h1];obtain ⟨rfl,hk⟩:=h.out;refine fU.mk rfl ?_;rw [p3] at hk;rw [p4];exact hK pre preB G p1 (fun e=>⟨(p2 (by simp [e])).1,(p2 (by simp [e])).2.1⟩) hk
  ·exact h.elim
theorem Ao (h:ot E f o K s) (hK:∀ s,K s→K' s):ot E f o K' s:=
 An rfl rfl rfl (fun _ _=>rfl) h fun _ _ _ _ _ hk=>hK _ hk
theorem Dc (h:ot E f o K s) (e:vz s t) (hK:Inv K):ot E f o K t:=
 An e.n e.G e.b (fun y _=>e.bO y) h fun _ _ _ _ _ hk=>hK _ _ (e.jg _ _ _) hk
def Ip (ops:List Oper) (s:St) (o:Oper):Option Bool:=match o.guard with
 |none=>some true
 |some (j,want)=>match uD ops j with
  |some d=>match lk s.ab d with
   |.v (.bool b)=>some (b == want)
   |.v (.bW [])=>some false
   |_=>none
  |none=>none
theorem Jg (s:St) {d:Tmp} {x:SV} (h:lk s.ab d=x):vz s (s.put (some d) x):=by
 simp only [St.put];split
 ·refine ⟨funext fun e=>?_,rfl,rfl,rfl,rfl,rfl⟩;by_cases k:d=e
  ·subst k; rw [aN]; exact h
  ·rw [a8 k]
 ·exact vz.refl s
theorem vz.put {s t:St} (h:vz s t) (d:Option Tmp) (x:SV):vz (s.put d x) (t.put d x):=by
 obtain ⟨pre,preB,G,_,_,p3,p4⟩:=cH.put (s:=s) (t:=t) (al:=false) (w:=false) h.n h.G d x;rw [p3,p4];exact h.jg _ _ _
theorem jL {ops:List Oper} (hK:Inv K):dh E f ops o K s↔(Ip ops s o=some true∧ot E f o K s)∨(Ip ops s o=some false∧K (s.put o.dst (.v jE))):=by
 unfold dh Ip;cases hg:o.guard with
 |none=>simp
 |some p=>
  obtain ⟨j,want⟩:=p;simp only;cases hd:uD ops j with
  |none=>simp
  |some d=>
   simp only;cases hl:lk s.ab d with
   |none=>simp
   |lp _ _=>simp
   |v a=>
    cases a with
    |bool b=>
     have e1:b=want→vz s (s.put (some d) (.v (.bool want))):=fun e=>Jg s (by rw [hl,e])
     have e2:b=(!want)→vz s (s.put (some d) (.v (.bool (!want)))):=fun e=>Jg s (by rw [hl,e])
     constructor
     ·intro ⟨h1,h2⟩;by_cases e:b=want
      ·exact .inl ⟨by simp [e],Dc (h1 e) (e1 e).symm hK⟩
      ·have e':b=(!want):=by cases b <;> cases want <;> simp_all
       exact .inr ⟨by simp [e],hK _ _ ((e2 e').symm.put _ _) (h2 e')⟩
     ·rintro (⟨h1,h2⟩|⟨h1,h2⟩)
      ·have e:b=want:=by simpa using h1
       exact ⟨fun e=>Dc h2 (e1 e) hK,fun e'=>by subst e; cases b <;> cases e'⟩
      ·have e:¬ b=want:=by simpa using h1
       exact ⟨fun k=>absurd k e,fun e'=>hK _ _ ((e2 e').put _ _) h2⟩
    |bW vs=>cases vs <;> simp
    |_=>simp
theorem dm {ops:List Oper} (h:dh E f ops o K s) (hK:∀ s,K s→K' s):dh E f ops o K' s:=by
 unfold dh at h ⊢;split at h
 ·exact Ao h hK
 ·split at h
  ·exact h.elim
  ·split at h
   ·exact ⟨fun e=>Ao (h.1 e) hK,fun e=>hK _ (h.2 e)⟩
   ·exact hK _ h
   ·exact h.elim
theorem Hl {ops:List Oper} (e:vz s t):Ip ops s o=Ip ops t o:=by
 unfold Ip;rw [e.l]
theorem Jh {ops:List Oper} (hK:Inv K):Inv (dh E f ops o K):=fun s t e h=>by
 rw [jL hK] at h ⊢;rcases h with ⟨h1,h2⟩|⟨h1,h2⟩
 ·exact .inl ⟨by rw [← Hl e]; exact h1,Dc h2 e hK⟩
 ·exact .inr ⟨by rw [← Hl e]; exact h1,hK _ _ (e.put _ _) h2⟩
end ops
end Go.Am
namespace Go.Am
open Go
def R9 (dst:Option Tmp) (s t s' t':St):Prop:=∃ x,s'=s.put dst x∧t'=t.put dst x
section
variable {E:Env} {s t:St} {o:Oper}
theorem R9.put (_:s.n=t.n) (dst:Option Tmp) (x:SV):R9 dst s t (s.put dst x) (t.put dst x):=⟨x,rfl,rfl⟩
theorem Ji {f:FuncId} {c:Bool} {s':St} (hN:zN o.op=true) (hR:isR o.op=false) (hn:s.n=t.n) (hY:∀ y∈o.op.operands,bO E s.ab y=bO E t.ab y)
  (h:aq E f s o=some (c,s')):∃ t',aq E f t o=some (c,t')∧R9 o.dst s t s' t':=by
 obtain ⟨dst,op,ty,pos,after,guard⟩:=o;cases op
 case move x=>
  simp only [aq,hY x (by simp [aaa])] at h ⊢;split at h
  all_goals (injection h with h; injection h with h1 h2; subst h1 h2; (try simp only [*]); exact ⟨_,rfl,.put hn _ _⟩)
 case assign x=>
  simp only [aq,hY x (by simp [aaa])] at h ⊢;split at h
  all_goals (injection h with h; injection h with h1 h2; subst h1 h2; (try simp only [*]); exact ⟨_,rfl,.put hn _ _⟩)
 case pick x y z=>
  simp only [aq,hY x (by simp [aaa]),hY y (by simp [aaa]),hY z (by simp [aaa])] at h ⊢;split at h
  ·injection h with h; injection h with h1 h2; subst h1 h2; (try simp only [*]); exact ⟨_,rfl,.put hn _ _⟩
  ·cases h
 case build ty ps=>
  have he:sI E s ty ps.toList=sI E t ty ps.toList:=by
   unfold sI;rw [rQ (fun p hp=>hY p.2 (by simp only [aaa,List.mem_toArray,List.mem_map]; exact ⟨p,hp,rfl⟩))]
  simp only [aq,he] at h ⊢;split at h
  ·injection h with h; injection h with h1 h2; subst h1 h2; (try simp only [*]); exact ⟨_,rfl,.put hn _ _⟩
  ·cases h
 case buildSlice ty len ps=>
  have he:cV E s ty len ps.toList=cV E t ty len ps.toList:=by
   unfold cV;rw [rQ (fun p hp=>hY p.2 (by simp only [aaa,List.mem_toArray,List.mem_map]; exact ⟨p,hp,rfl⟩))]
  simp only [aq,he] at h ⊢;split at h
  ·injection h with h; injection h with h1 h2; subst h1 h2; (try simp only [*]); exact ⟨_,rfl,.put hn _ _⟩
  ·cases h
 case binOp op a x y b=>
  simp only [aq,hY x (by simp [aaa]),hY y (by simp [aaa])] at h ⊢
  repeat' (split at h)
  all_goals (first|(cases h; done) | skip)
  all_goals (injection h with h; injection h with h1 h2; subst h1 h2; (try simp only [*]); exact ⟨_,rfl,.put hn _ _⟩)
 case unOp op a x=>
  simp only [aq,hY x (by simp [aaa])] at h ⊢
  repeat' (split at h)
  all_goals (first|(cases h; done) | skip)
  all_goals (injection h with h; injection h with h1 h2; subst h1 h2; (try simp only [*]); exact ⟨_,rfl,.put hn _ _⟩)
 case convert a b x=>simp [isR] at hR
 case nilCheck x=>
  simp only [aq,hY x (by simp [aaa])] at h ⊢
  repeat' (split at h)
  all_goals (first|(cases h; done) | skip)
  all_goals (injection h with h; injection h with h1 h2; subst h1 h2; (try simp only [*]); exact ⟨_,rfl,.put hn _ _⟩)
 case makeFunc fo a b=>
  cases fo with
  |func g=>
   have h1:rk E s.ab a.toList=rk E t.ab a.toList:=kV fun y hy=>hY y (by simp only [aaa,Array.mem_append]; exact .inl (by simpa using hy))
   have h2:rk E s.ab b.toList=rk E t.ab b.toList:=kV fun y hy=>hY y (by simp only [aaa,Array.mem_append]; exact .inr (by simpa using hy))
   simp only [aq,h1,h2] at h ⊢
   repeat' (split at h)
   all_goals (first|(cases h; done) | skip)
   all_goals (injection h with h; injection h with h1 h2; subst h1 h2; (try simp only [*]); exact ⟨_,rfl,.put hn _ _⟩)
  |_=>simp [aq] at h
 case fieldAddr a x j=>
  simp only [aq,hY x (by simp [aaa])] at h ⊢
  repeat' (split at h)
  all_goals (first|(cases h; done) | skip)
  all_goals (injection h with h; injection h with h1 h2; subst h1 h2; (try simp only [*]); exact ⟨_,rfl,.put hn _ _⟩)
 case field a x j=>
  simp only [aq,hY x (by simp [aaa])] at h ⊢
  repeat' (split at h)
  all_goals (first|(cases h; done) | skip)
  all_goals (injection h with h; injection h with h1 h2; subst h1 h2; (try simp only [*]); exact ⟨_,rfl,.put hn _ _⟩)
 case indexAddr a x y=>
  simp only [aq,hY x (by simp [aaa]),hY y (by simp [aaa])] at h ⊢
  repeat' (split at h)
  all_goals (first|(cases h; done) | skip)
  all_goals (injection h with h; injection h with h1 h2; subst h1 h2; (try simp only [*]); exact ⟨_,rfl,.put hn _ _⟩)
 case index a x y=>
  simp only [aq,hY x (by simp [aaa]),hY y (by simp [aaa])] at h ⊢
  repeat' (split at h)
  all_goals (first|(cases h; done) | skip)
  all_goals (injection h with h; injection h with h1 h2; subst h1 h2; (try simp only [*]); exact ⟨_,rfl,.put hn _ _⟩)
 case slice a x lo hi mx=>
  have h1:pZ E s.ab lo=pZ E t.ab lo:=by
   cases lo with
   |none=>rfl
   |some y=>simp only [pZ]; rw [hY y (by simp [aaa])]
  have h2:pZ E s.ab hi=pZ E t.ab hi:=by
   cases hi with
   |none=>rfl
   |some y=>simp only [pZ]; rw [hY y (by simp [aaa])]
  simp only [aq,hY x (by simp [aaa]),h1,h2] at h ⊢
  repeat' (split at h)
  all_goals (first|(cases h; done) | skip)
  all_goals (injection h with h; injection h with h1 h2; subst h1 h2; (try simp only [*]); exact ⟨_,rfl,.put hn _ _⟩)
 case extract x i=>
  simp only [aq,hY x (by simp [aaa])] at h ⊢
  repeat' (split at h)
  all_goals (first|(cases h; done) | skip)
  all_goals (injection h with h; injection h with h1 h2; subst h1 h2; (try simp only [*]); exact ⟨_,rfl,.put hn _ _⟩)
 all_goals (first|(simp [zN] at hN; done) | (simp [isR] at hR; done))
end
end Go.Am
namespace Go.Am
open Go
section
variable {E:Env} {s t:St} {f:FuncId} {ops:Array Oper} {o oj oi:Oper} {d:Tmp} {x:SV} {K:St→Prop}
theorem Sa (ops:Array Oper) (j:Nat):uD ops.toList j=(ops[j]?).bind (·.dst):=by
 unfold uD;rw [aV,aaG];cases ops[j]? <;> rfl
theorem s7 {e:Tmp} (h:.tmp e∈o.op.operands):e∈o.looksAt ops:=
 List.mem_append_left _ (List.mem_filterMap.2 ⟨.tmp e,by simpa using h,rfl⟩)
theorem nX {j:Nat} {want:Bool} {e:Tmp} (h:o.guard=some (j,want)) (he:uD ops.toList j=some e):e∈o.looksAt ops:=by
 rw [Sa] at he;refine List.mem_append_right _ ?_;rw [h];simp [he]
theorem ph (h:∀ e∈o.looksAt ops,lk s.ab e=lk t.ab e):∀ y∈o.op.operands,bO E s.ab y=bO E t.ab y:=fun _ hy=>
 R8 fun e he=>h e (s7 (he ▸ hy))
theorem oM (h:∀ e∈o.looksAt ops,lk s.ab e=lk t.ab e):Ip ops.toList s o=Ip ops.toList t o:=by
 unfold Ip;split
 ·rfl
 ·rename_i j want hg;split
  ·rename_i e he;rw [h e (nX hg he)]
  ·rfl
theorem B8 (s:St) (d:Tmp) (x:SV) {e:Nat} (h:d≠e):lk (s.put (some d) x).ab e=lk s.ab e:=by
 simp only [St.put];split
 ·exact a8 h
 ·rfl
theorem jM (s:St) (d:Option Tmp) (x:SV):(s.put d x).boxes=s.boxes∧(s.put d x).G=s.G∧(s.put d x).n=s.n∧(s.put d x).marks=s.marks∧(s.put d x).ro=s.ro:=by
 cases d with
 |none=>exact ⟨rfl,rfl,rfl,rfl,rfl⟩
 |some d=>
  simp only [St.put];split <;> exact ⟨rfl,rfl,rfl,rfl,rfl⟩
def Dd (E:Env) (f:FuncId) (ops:Array Oper) (o:Oper) (s:St) (x:SV):Prop:=
 (Ip ops.toList s o=some true∧aq E f s o=some (true,s.put o.dst x))∨(Ip ops.toList s o=some false∧x=.v jE)
theorem Sb {c:Bool} {s':St} (hN:zN o.op=true) (h:aq E f s o=some (c,s')):∃ x,s'=s.put o.dst x:=by
 obtain ⟨t',_,pre,preB,G,_,h2,_,_⟩:=kW (t:=s) rfl rfl rfl (fun _ _=>rfl) h;obtain ⟨_,_,x,hx,_⟩:=h2 (by simp [hN]);exact ⟨x,hx⟩
theorem Sc (hN:zN o.op=true):ot E f o K s↔∃ s',aq E f s o=some (true,s')∧K s':=by
 unfold ot;split
 ·rename_i h;rw [h] at hN;simp [zN] at hN
 ·rename_i h;rw [h] at hN;simp [zN] at hN
 ·split
  ·rename_i c s' hs;constructor
   ·intro h;obtain ⟨rfl,hk⟩:=h.out;exact ⟨s',hs,hk⟩
   ·rintro ⟨He,h1,h2⟩;rw [hs] at h1;cases h1;exact fU.mk rfl h2
  ·rename_i hs;constructor
   ·exact fun h=>h.elim
   ·rintro ⟨He,h1,_⟩;rw [hs] at h1;cases h1
theorem De (hN:zN o.op=true) (hK:Inv K) (h:dh E f ops.toList o K s):∃ x,Dd E f ops o s x∧K (s.put o.dst x):=by
 rcases (jL hK).1 h with ⟨h1,h2⟩|⟨h1,h2⟩
 ·obtain ⟨s',h3,h4⟩:=(Sc hN).1 h2;obtain ⟨x,rfl⟩:=Sb hN h3;exact ⟨x,.inl ⟨h1,h3⟩,h4⟩
 ·exact ⟨_,.inr ⟨h1,rfl⟩,h2⟩
theorem Df (hN:zN o.op=true) (hK:Inv K) (hx:Dd E f ops o s x) (h:K (s.put o.dst x)):dh E f ops.toList o K s:=by
 rw [jL hK];rcases hx with ⟨h1,h2⟩|⟨h1,rfl⟩
 ·exact .inl ⟨h1,(Sc hN).2 ⟨_,h2,h⟩⟩
 ·exact .inr ⟨h1,h⟩
def Mb (E:Env) (f:FuncId) (ops:List Oper) (o:Oper) (s:St):Prop:=match Ip ops s o with
 |some true=>match o.dst,aq E f s o with
  |some d,some (c,s')=>c=true∧lk s'.ab d=lk s.ab d
  |_,_=>False
 |some false=>True
 |none=>False
theorem Vv (hN:zN o.op=true) (hd:d∉o.looksAt ops) (df:o.dst≠some d) (he:∀ e,d≠e→lk s.ab e=lk t.ab e) (hB:fh s.boxes=fh t.boxes) (hG:s.G=t.G) (hn:s.n=t.n)
  (h:Mb E f ops.toList o s):Mb E f ops.toList o t:=by
 have hl:∀ e∈o.looksAt ops,lk s.ab e=lk t.ab e:=fun e hm=>he e fun k=>hd (k ▸ hm)
 unfold Mb at h ⊢;rw [← oM hl];split
 ·rename_i hg;rw [hg] at h;simp only at h;split at h
  ·rename_i e c s' PI hs;obtain ⟨t',h3,pre,preB,G,_,h4,_,_⟩:=kW hn hG hB (ph hl) hs;obtain ⟨_,_,y,h5,h6⟩:=h4 (by simp [hN]);rw [PI,h3];refine ⟨h.1,?_⟩;have hde:d≠e:=fun k=>df (by rw [PI,k])
   have h7:=h.2;rw [h5,PI] at h7;rw [h6,PI,← he e hde];simp only [St.put,← hn] at h7 ⊢;split
   ·rename_i hb;rw [hb] at h7;simp only [aN] at h7 ⊢;exact h7
   ·exact (he e hde).symm
  ·exact h.elim
 ·trivial
 ·rename_i hg;rw [hg] at h;exact h
theorem Vw (hN:zN o.op=true) (e:vz s t) (h:Mb E f ops.toList o s):Mb E f ops.toList o t:=by
 unfold Mb at h ⊢;rw [← Hl e];split
 ·rename_i hg;rw [hg] at h;simp only at h;split at h
  ·rename_i d c s' PI hs;obtain ⟨t',h3,pre,preB,G,_,h4,_,_⟩:=kW e.n e.G e.b (fun y _=>e.bO y) hs;obtain ⟨_,_,y,h5,h6⟩:=h4 (by simp [hN]);rw [PI,h3];refine ⟨h.1,?_⟩;rw [h6,← (e.put o.dst y).l,← h5,← e.l];exact h.2
  ·exact h.elim
 ·trivial
 ·rename_i hg;rw [hg] at h;exact h
def mZ (oj oi:Oper):Bool:=cK oi.op || (isR oj.op&&!zN oi.op)
theorem Sd {al:Bool} {dst:Option Tmp} {pre:bz} (h:Pre al dst pre) {e:Nat} (he:dst≠some e) (l:bz):lk (pre++l) e=lk l e∨(al=true∧∃ k off,lk l e=.lp k off):=by
 rcases h with rfl|⟨d,y,rfl,rfl|⟨rfl,rfl⟩⟩
 ·exact .inl rfl
 ·exact .inl (a8 fun k=>he (by rw [k]))
 ·simp only [aag,aak];rw [a8 (fun k=>he (by rw [k]))];simp only [lk];cases hl:lk l e with
  |lp k off=>exact .inr ⟨trivial,k,off,rfl⟩
  |_=>exact .inl rfl
theorem yA {al:Bool} {pre:bz} (preB:dX) (G:List GO) (h:Pre al oi.dst pre) (df:oi.dst≠some d) (hx:al=false∨∃ a,x=.v a):vz ((s.put (some d) x).jg pre preB G) ((s.jg pre preB G).put (some d) x):=by
 have hb:∀ b,abJ d s.n=b→vz ((s.put (some d) x).jg pre preB G) ((s.jg pre preB G).put (some d) x):=fun b hb=>by
  have oh:abJ d (s.jg pre preB G).n=b:=hb;rw [ql,ql,hb,oh];cases b with
  |false=>exact vz.refl _
  |true=>
   refine ⟨funext fun e=>?_,rfl,rfl,rfl,rfl,rfl⟩;simp only [cond_true,St.jg,aag,aak];by_cases k:d=e
   ·subst k;rw [aN];rcases Sd h df (.put d x :: s.ab) with h1|⟨h1,k,off,h2⟩
    ·rw [h1,aN]
    ·rw [aN] at h2;rcases hx with hx|⟨a,hx⟩
     ·rw [hx] at h1; cases h1
     ·rw [hx] at h2; cases h2
   ·rw [a8 k];exact rR (a8 k) pre
 exact hb _ rfl
theorem PJ (hN:zN oj.op=true) (NV:oj.dst=some d) (Jj:d∉oj.looksAt ops) (Vo:oj.apart ops oi=true) (hK:Inv K) (hx:Dd E f ops oj s x) {pre:bz} {preB:dX} {G:List GO}
  (Jk:Pre (cK oi.op) oi.dst pre) (hNi:zN oi.op=true→preB=[]∧G=s.G) (hk:K ((s.put (some d) x).jg pre preB G)) (Z7:∀ t',K t'→mZ oj oi=true→Mb E f ops.toList oj t') :
  ∃ x',Dd E f ops oj (s.jg pre preB G) x'∧K ((s.jg pre preB G).put (some d) x'):=by
 obtain ⟨_,df,BK⟩:=abL Vo;have LG:oi.dst≠some d:=df d NV;have yB:∀ e∈oj.looksAt ops,oi.dst≠some e:=fun e he k=>BK e k he
 have A6:∀ e∈oj.looksAt ops,(cK oi.op=false∨∃ b,lk s.ab e=.v b)→lk s.ab e=lk (s.jg pre preB G).ab e:=fun e he ha=>by
  rcases Sd Jk (yB e he) s.ab with h1|⟨h1,k,off,h2⟩
  ·exact h1.symm
  ·rcases ha with ha|⟨b,ha⟩
   ·rw [ha] at h1; cases h1
   ·rw [ha] at h2; cases h2
 have Vx:∀ b,Ip ops.toList s oj=some b→Ip ops.toList (s.jg pre preB G) oj=some b:=fun b hb=>by
  unfold Ip at hb ⊢;split
  ·rename_i hg; rw [hg] at hb; exact hb
  ·rename_i j want hg;rw [hg] at hb;simp only at hb;split
   ·rename_i e he;rw [he] at hb;simp only at hb;split at hb
    ·rename_i b' hl;have:=A6 e (nX hg he) (.inr ⟨_,hl⟩);rw [← this,hl];exact hb
    ·rename_i hl;have:=A6 e (nX hg he) (.inr ⟨_,hl⟩);rw [← this,hl];exact hb
    ·cases hb
   ·rename_i he; rw [he] at hb; cases hb
 rcases hx with ⟨h1,h2⟩|⟨h1,rfl⟩
 ·rw [NV] at h2;by_cases aiG:mZ oj oi=true
  ·have hr:=Z7 _ hk aiG
   -- the state with the slot, and the one without it
   have Ah:∀ e,d≠e→lk ((s.put (some d) x).jg pre preB G).ab e=lk (s.jg pre preB G).ab e:=fun e he=>rR (B8 s d x he) pre
   have hB:fh ((s.put (some d) x).jg pre preB G).boxes=fh (s.jg pre preB G).boxes:=by
    simp only [St.jg]; rw [(jM s _ x).1]
   have hn:((s.put (some d) x).jg pre preB G).n=(s.jg pre preB G).n:=(jM s _ x).2.2.1;have Vy:∀ e∈oj.looksAt ops,lk ((s.put (some d) x).jg pre preB G).ab e=lk (s.jg pre preB G).ab e:=fun e he=>Ah e fun k=>Jj (k ▸ he)
   have hg2:Ip ops.toList ((s.put (some d) x).jg pre preB G) oj=some true:=by rw [oM Vy]; exact Vx _ h1
   unfold Mb at hr;rw [hg2] at hr;simp only [NV] at hr;split at hr
   ·rename_i d' c s' ND hs;cases ND;obtain ⟨rfl,hr⟩:=hr;obtain ⟨t',h3,p,pB,G2,_,h4,_,_⟩:=kW (t:=s.jg pre preB G) hn rfl hB (ph Vy) hs;obtain ⟨_,_,y,h5,h6⟩:=h4 (by simp [hN]);rw [h6] at h3;rw [h5,NV] at hr;refine ⟨y,.inl ⟨Vx _ h1,h3⟩,hK _ _ ?_ hk⟩;have hmr:((s.put (some d) x).jg pre preB G).marks=(s.jg pre preB G).marks∧((s.put (some d) x).jg pre preB G).ro=(s.jg pre preB G).ro:=(jM s _ x).2.2.2;obtain ⟨q1,q2,q3,q4,q5⟩:=jM (s.jg pre preB G) (some d) y;refine ⟨funext fun e=>?_,by rw [q1]; exact hB,by rw [q2]; rfl,by rw [q4]; exact hmr.1,by rw [q5]; exact hmr.2,by rw [q3]; exact hn⟩;by_cases k:d=e
    ·subst k;rw [← hr];have hb:∀ b,abJ d s.n=b→lk (((s.put (some d) x).jg pre preB G).put (some d) y).ab d=lk ((s.jg pre preB G).put (some d) y).ab d:=fun b hb=>by
      have Se:abJ d (s.jg pre preB G).n=b:=hb;have QW:abJ d ((s.put (some d) x).jg pre preB G).n=b:=by rw [hn]; exact hb
      rw [ql _ d y,ql _ d y,Se,QW];cases b with
      |true=>simp [St.jg,aN]
      |false=>
       simp only [cond_false];rw [ql,hb];rfl
     exact hb _ rfl
    ·rw [B8 _ _ _ k];exact Ah e k
   ·exact hr.elim
  ·have PK:cK oi.op=false:=by cases ha:cK oi.op <;> simp_all [mZ]
   have hl:∀ e∈oj.looksAt ops,lk s.ab e=lk (s.jg pre preB G).ab e:=fun e he=>A6 e he (.inl PK)
   have fin:∀ y,s.put (some d) x=s.put (some d) y→aq E f (s.jg pre preB G) oj=some (true,(s.jg pre preB G).put oj.dst y) →
     ∃ x',Dd E f ops oj (s.jg pre preB G) x'∧K ((s.jg pre preB G).put (some d) x'):=fun y hy hs=>by
    refine ⟨y,.inl ⟨Vx _ h1,hs⟩,hK _ _ (yA (oi:=oi) preB G Jk LG (.inl PK)) ?_⟩;rw [← hy];exact hk
   cases hNo:zN oi.op with
   |true=>
    obtain ⟨rfl,rfl⟩:=hNi hNo;obtain ⟨t',h3,p,pB,G2,_,h4,_,_⟩:=kW (s:=s) (t:=s.jg pre [] s.G) rfl rfl rfl (ph hl) h2;obtain ⟨_,_,y,h5,h6⟩:=h4 (by simp [hN]);rw [NV] at h5;exact fin y h5 (by rw [h3,h6])
   |false=>
    have hR:isR oj.op=false:=by cases ha:isR oj.op <;> simp_all [mZ]
    obtain ⟨t',h3,y,h5,h6⟩:=Ji (s:=s) (t:=s.jg pre preB G) hN hR rfl (ph hl) h2;rw [NV] at h5;exact fin y h5 (by rw [h3,h6])
 ·exact ⟨_,.inr ⟨Vx _ h1,rfl⟩,hK _ _ (yA (oi:=oi) preB G Jk LG (.inr ⟨_,rfl⟩)) hk⟩
end
end Go.Am
namespace Go.Am
open Go
section
variable {E:Env} {s t:St} {o:Oper}
def kX (E:Env) (s:St) (o:Oper) (s':St):Prop:=
 (s'.ab=s.ab∨∃ d x,o.dst=some d∧(s'.ab=.put d x :: s.ab∨s'.ab=.put d x :: .kill d :: s.ab)∧∀ k off,x=.lp k off→(∃ y∈o.op.operands,∃ ko,bO E s.ab y=.lp k ko)∨(cK o.op=true∧k=d)) ∧
 (s'.boxes=s.boxes∨∃ k cs,s'.boxes=(k,cs) :: s.boxes∧((cK o.op=true∧o.dst=some k)∨∃ y∈o.op.operands,∃ off,bO E s.ab y=.lp k off))
theorem qm {s1:St} (h1:s1.ab=s.ab) (h2:s1.boxes=s.boxes) {x:SV} (hx:∀ k off,x=.lp k off→∃ y∈o.op.operands,∃ ko,bO E s.ab y=.lp k ko):kX E s o (s1.put o.dst x):=by
 refine ⟨?_,.inl (by rw [(jM s1 o.dst x).1,h2])⟩;cases hd:o.dst with
 |none=>exact .inl h1
 |some d=>
  simp only [St.put];split
  ·exact .inr ⟨d,x,rfl,.inl (by rw [h1]),fun k off h=>.inl (hx k off h)⟩
  ·exact .inl h1
theorem pi {s1:St} (h1:s1.ab=s.ab) (h2:s1.boxes=s.boxes) (a:AV):kX E s o (s1.put o.dst (.v a)):=qm h1 h2 fun k off h=>by cases h
theorem nf {s1:St} (h1:s1.ab=s.ab) (h2:s1.boxes=s.boxes):kX E s o s1:=⟨.inl h1,.inl h2⟩
theorem Vz {k:Nat} {cs:List AV} (h:∃ y∈o.op.operands,∃ off,bO E s.ab y=.lp k off):kX E s o (s.AZ k cs):=⟨.inl rfl,.inr ⟨k,cs,rfl,.inr h⟩⟩
theorem Jl {n:Nat} {x:SV} {k off:Nat} (h:Fw n x=some (.lp k off)):∃ ko,x=.lp k ko:=by
 unfold Fw at h;split at h <;> cases h;exact ⟨_,rfl⟩
theorem Fm {ty:TypeId} {x:SV} {j k off:Nat} (h:oR E ty x j=some (.lp k off)):∃ ko,x=.lp k ko:=by
 unfold oR at h
 repeat' (split at h)
 all_goals (first|(cases h; done) | exact Jl h)
theorem Fo {ty:TypeId} {x ix:SV} {c:Bool} {k off:Nat} (h:oQ E ty x ix=some (c,.lp k off)):∃ ko,x=.lp k ko:=by
 unfold oQ at h
 repeat' (split at h)
 all_goals (first|(cases h; done) | skip)
 rename_i hm;injection h with h; injection h with h1 h2; subst h2;exact Jl hm
theorem Mc {ty:TypeId} {p x:SV} {s':St} (hp:∀ k off,p=.lp k off→∃ y∈o.op.operands,∃ ko,bO E s.ab y=.lp k ko) (h:kj E s ty p x=some s'):kX E s o s':=by
 unfold kj at h
 repeat' (split at h)
 all_goals (first|(cases h; done) | skip)
 ·cases h; exact Vz (hp _ _ rfl)
 ·cases h; exact nf rfl rfl
theorem Md {ty:TypeId} {p x:SV} {c:Bool} {s':St} (hp:∀ k off,p=.lp k off→∃ y∈o.op.operands,∃ ko,bO E s.ab y=.lp k ko) (h:iz E s ty p x=some (c,s')):kX E s o s':=by
 unfold iz at h
 repeat' (split at h)
 all_goals (first|(cases h; done) | skip)
 ·injection h with h; injection h with h1 h2; subst h2; exact nf rfl rfl
 ·injection h with h; injection h with h1 h2; subst h2; exact nf rfl rfl
 ·injection h with h; injection h with h1 h2; subst h2; exact nf rfl rfl
 ·injection h with h; injection h with h1 h2; subst h2; exact nf rfl rfl
 ·rename_i hs;injection h with h; injection h with h1 h2; subst h2; exact Mc hp hs
theorem Me {ty:TypeId} {p x:SV} {c:Bool} {s':St} (hp:∀ k off,p=.lp k off→∃ y∈o.op.operands,∃ ko,bO E s.ab y=.lp k ko) (h:nS E s ty p x=some (c,s')):kX E s o s':=by
 unfold nS at h;split at h
 ·rename_i hs;injection h with h; injection h with e1 e2;subst e2;exact Md (s:=s.bM (wR s p x).2.2) hp hs
 ·cases h
theorem Bh {ty:TypeId} {m k x:SV} {s':St} (h:iV E s ty m k x=some s'):kX E s o s':=by
 unfold iV at h
 repeat' (split at h)
 all_goals (first|(cases h; done) | skip)
 cases h; exact nf rfl rfl
theorem PL {x:SV} {s':St} (h:qi s o.dst x=some s'):kX E s o s':=by
 unfold qi at h;split at h
 ·split at h
  ·rename_i l pos hg;cases hb:abJ pos l.length with
   |true=>
    rw [hb] at h;simp only [cond_true] at h;cases h;exact pi rfl rfl _
   |false=>
    rw [hb] at h;simp only [cond_false] at h;cases h;exact pi rfl rfl _
  ·cases h
 ·cases h
theorem Hm {b:Builtin} {l:List AV} {tys:List TypeId} {c:Bool} {s':St} (h:dG E s o.dst b l tys=some (c,s')):kX E s o s':=by
 unfold dG at h;cases b
 all_goals (try (cases h; done))
 all_goals (try simp only at h)
 all_goals (try (split at h <;> first | (cases h; done) | simp only at h))
 all_goals (repeat' (split at h))
 all_goals (first|(cases h; done) | skip)
 all_goals (injection h with h; injection h with h1 h2; subst h1 h2)
 all_goals (first|exact pi rfl rfl _ | exact nf rfl rfl)
theorem PM {f:FuncId} {c:Bool} {s':St} (h:kR E f s o=some (c,s')):kX E s o s':=by
 unfold kR at h;cases h
theorem Dg {f:FuncId} {el:TypeId} {cs:List AV} {c:Bool} {s':St} (ha:cK o.op=true) (h:iU E f s o.dst el cs=some (c,s')):kX E s o s':=by
 unfold iU at h;split at h
 ·cases h
 ·rename_i d hd;split at h
  ·injection h with h; injection h with h1 h2; subst h2;rw [← hd];exact pi rfl rfl _
  ·split at h
   ·rename_i hb;injection h with h; injection h with h1 h2; subst h2;refine ⟨.inr ⟨d,.lp d 0,hd,.inr ?_,fun k off h=>by cases h; exact .inr ⟨ha,rfl⟩⟩,.inr ⟨d,cs,?_,.inl ⟨ha,hd⟩⟩⟩
    ·simp only [St.put,St.AZ,St.kill,hb]
    ·rw [(jM _ (some d) (.lp d 0)).1]; rfl
   ·cases h
theorem Mf {f:FuncId} {c:Bool} {s':St} (h:aq E f s o=some (c,s')):kX E s o s':=by
 cases ho:o.op
 case move x=>
  simp only [aq,ho] at h;split at h
  all_goals (injection h with h; injection h with h1 h2; subst h2)
  ·exact pi rfl rfl _
  ·rename_i k off hx;exact qm rfl rfl fun k' ko e=>by cases e; exact ⟨x,by rw [ho]; simp [aaa],_,hx⟩
  ·exact qm rfl rfl fun k' ko e=>by cases e
 case assign x=>
  simp only [aq,ho] at h;split at h
  all_goals (injection h with h; injection h with h1 h2; subst h2)
  ·exact pi rfl rfl _
  ·rename_i k off hx;exact qm rfl rfl fun k' ko e=>by cases e; exact ⟨x,by rw [ho]; simp [aaa],_,hx⟩
  ·exact qm rfl rfl fun k' ko e=>by cases e
 case nilCheck x=>
  simp only [aq,ho] at h;split at h
  ·injection h with h; injection h with h1 h2; subst h2;exact pi rfl rfl _
  ·injection h with h; injection h with h1 h2; subst h2;exact pi rfl rfl _
  ·rename_i k off hx;injection h with h; injection h with h1 h2; subst h2;exact qm rfl rfl fun k' ko e=>by cases e; exact ⟨x,by rw [ho]; simp [aaa],_,hx⟩
  ·cases h
 case fieldAddr a x j=>
  simp only [aq,ho] at h;split at h
  ·rename_i p hp;injection h with h; injection h with h1 h2; subst h2;exact qm rfl rfl fun k' ko e=>by subst e; exact ⟨x,by rw [ho]; simp [aaa],Fm hp⟩
  ·cases h
 case indexAddr a x y=>
  simp only [aq,ho] at h;split at h
  ·rename_i c' p hp;injection h with h; injection h with h1 h2; subst h2;exact qm rfl rfl fun k' ko e=>by subst e; exact ⟨x,by rw [ho]; simp [aaa],Fo hp⟩
  ·cases h
 case alloc e=>
  simp only [aq,ho] at h
  repeat' (split at h)
  all_goals (first|(cases h; done) | skip)
  exact Dg (by rw [ho]; rfl) h
 case box e x=>
  simp only [aq,ho] at h
  repeat' (split at h)
  all_goals (first|(cases h; done) | skip)
  exact Dg (by rw [ho]; rfl) h
 case store ty x y=>
  simp only [aq,ho] at h;split at h
  ·rename_i hs;injection h with h; injection h with h1 h2; subst h2;exact Me (fun k off e=>⟨x,by rw [ho]; simp [aaa],off,e⟩) hs
  ·cases h
 case mapUpdate ty x y z=>
  simp only [aq,ho] at h;split at h
  ·rename_i hs;injection h with h; injection h with h1 h2; subst h2;exact Bh hs
  ·cases h
 case insert ty x y z=>
  simp only [aq,ho] at h;split at h
  ·rename_i hs;injection h with h; injection h with h1 h2; subst h2;exact Bh hs
  ·cases h
 case mapEntry ty x y=>
  simp only [aq,ho] at h;split at h
  ·rename_i hs;injection h with h; injection h with h1 h2; subst h2;unfold jU at hs
   repeat' (split at hs)
   all_goals (first|(cases hs; done) | skip)
   injection hs with hs; injection hs with h3 hs; injection hs with h4 h5;subst h5;exact pi rfl rfl _
  ·cases h
 case entryStore ty x y z=>
  simp only [aq,ho] at h;split at h
  ·rename_i hs;injection h with h; injection h with h1 h2; subst h2;unfold gU at hs
   repeat' (split at hs)
   all_goals (first|(cases hs; done) | skip)
   injection hs with hs; injection hs with h3 h4;subst h4;exact nf rfl rfl
  ·cases h
 case next x b=>
  cases b with
  |false=>simp [aq,ho] at h
  |true=>
   simp only [aq,ho] at h;split at h
   ·rename_i hs;injection h with h; injection h with h1 h2; subst h2;exact PL hs
   ·cases h
 case call cl=>
  obtain ⟨callee,args,tys⟩:=cl;cases callee with
  |builtin b=>
   simp only [aq,ho] at h;split at h
   ·rename_i r hf;cases h;exact PM hf
   ·split at h
    ·exact Hm h
    ·cases h
  |_=>simp [aq,ho] at h
 case makeFunc fo a b=>
  cases fo with
  |func g=>
   simp only [aq,ho] at h
   repeat' (split at h)
   all_goals (first|(cases h; done) | skip)
   injection h with h; injection h with h1 h2; subst h2;exact pi rfl rfl _
  |_=>simp [aq,ho] at h
 case makeMap ty r=>
  cases r with
  |none=>
   simp only [aq,ho] at h;injection h with h; injection h with h1 h2; subst h2;exact pi rfl rfl _
  |some _=>simp [aq,ho] at h
 all_goals (first
  |(simp [aq,ho] at h; done)
  |(simp only [aq,sM,ho] at h; (repeat' (split at h)); (all_goals (first|(cases h; done) | skip)); (all_goals (injection h with h; injection h with h1 h2; subst h2)); (all_goals (exact pi rfl rfl _))))
def xn (s:St) (d:Nat) (cs:List AV):St:=s.jg [.put d (.lp d 0),.kill d] [(d,cs)] s.G
theorem Mg {f:FuncId} {d:Tmp} {c:Bool} {s1:St} (PK:cK o.op=true) (hd:o.dst=some d) (hg:E.E0 f d=false) (h:aq E f s o=some (c,s1)) :
  c=true∧∃ cs,s1=xn s d cs∧∀ t:St,t.n=s.n→(∀ y∈o.op.operands,∀ v,bO E s.ab y=.v v→bO E t.ab y=.v v)→aq E f t o=some (true,xn t d cs):=by
 have key:∀ (el:TypeId) (cs:List AV),iU E f s o.dst el cs=some (c,s1)→c=true∧s1=xn s d cs∧∀ t:St,t.n=s.n→iU E f t o.dst el cs=some (true,xn t d cs):=by
  intro el cs h;unfold iU at h;rw [hd] at h;simp only [hg,abz,if_false] at h;split at h
  ·rename_i hb;injection h with h; injection h with h1 h2; subst h1 h2;refine ⟨rfl,?_,fun t ht=>?_⟩
   ·simp only [St.put,St.AZ,St.kill,hb,xn,St.jg]; rfl
   ·unfold iU;rw [hd];simp only [hg,abz,if_false,ht,hb];simp only [St.put,St.AZ,St.kill,ht,hb,xn,St.jg]; rfl
  ·cases h
 cases ho:o.op
 case alloc e=>
  simp only [aq,ho] at h ⊢;split at h
  ·split at h
   ·split at h
    ·rename_i hi _ _ hz Pj;obtain ⟨k1,k2,k3⟩:=key _ _ h;refine ⟨k1,_,k2,fun t ht _=>?_⟩;simp only [hi,hz,Pj,if_true];exact k3 t ht
    ·cases h
   ·cases h
  ·cases h
 case box e x=>
  simp only [aq,ho] at h ⊢;split at h
  ·split at h
   ·rename_i v hv Pj;obtain ⟨k1,k2,k3⟩:=key _ _ h;refine ⟨k1,_,k2,fun t ht he=>?_⟩;simp only [he x (by simp [aaa]) v hv,Pj,if_true];exact k3 t ht
   ·cases h
  ·cases h
 all_goals (rw [ho] at PK; simp [cK] at PK)
theorem NW {pre:bz} {preB:dX} {G:List GO} (h:kX E s o (s.jg pre preB G)) :
  (pre=[]∨∃ d x,o.dst=some d∧(pre=[.put d x]∨pre=[.put d x,.kill d])∧∀ k off,x=.lp k off→(∃ y∈o.op.operands,∃ ko,bO E s.ab y=.lp k ko)∨(cK o.op=true∧k=d)) ∧
  (preB=[]∨∃ k cs,preB=[(k,cs)]∧((cK o.op=true∧o.dst=some k)∨∃ y∈o.op.operands,∃ off,bO E s.ab y=.lp k off)):=by
 obtain ⟨h1,h2⟩:=h;refine ⟨?_,?_⟩
 ·rcases h1 with h1|⟨d,x,hd,h1,hx⟩
  ·exact .inl (by simpa [St.jg] using h1)
  ·refine .inr ⟨d,x,hd,?_,hx⟩;rcases h1 with h1|h1
   ·left;have h1:pre++s.ab=[.put d x]++s.ab:=h1;exact abw h1
   ·right;have h1:pre++s.ab=[.put d x,.kill d]++s.ab:=h1;exact abw h1
 ·rcases h2 with h2|⟨k,cs,h2,hx⟩
  ·exact .inl (by simpa [St.jg] using h2)
  ·refine .inr ⟨k,cs,?_,hx⟩;have h2:preB++s.boxes=[(k,cs)]++s.boxes:=h2;exact abw h2
theorem ng (d e:Nat) (l:bz):lk (.kill d :: l) e=(match lk l e with | .lp k off=>bif aaN k d then .none else .lp k off | x=>x):=rfl
theorem Dh {d e:Nat} {l:bz} (h:∀ off,lk l e≠.lp d off):lk (.kill d :: l) e=lk l e:=by
 rw [ng];split
 ·rename_i k off hk;cases hb:aaN k d with
  |true=>exact absurd (by rw [hk,aas hb]) (h off)
  |false=>rw [hk]; rfl
 ·rfl
theorem PN {d:Nat} {pre:bz} {preB:dX} {G:List GO} (cs:List AV) (Sf:kX E s o (s.jg pre preB G)) (df:o.dst≠some d) (PO:∀ y∈o.op.operands,∀ off,bO E s.ab y≠.lp d off) :
  vz ((xn s d cs).jg pre preB G) (xn (s.jg pre preB G) d cs):=by
 obtain ⟨h1,h2⟩:=NW Sf;refine ⟨funext fun e=>?_,funext fun k=>?_,rfl,rfl,rfl,rfl⟩
 ·show lk (pre++([.put d (.lp d 0),.kill d]++s.ab)) e=lk ([.put d (.lp d 0),.kill d]++(pre++s.ab)) e;rcases h1 with rfl|⟨d',x,hd,hp,hx⟩
  ·rfl
  ·have hdd:d'≠d:=fun c=>df (by rw [hd,c])
   have zM:∀ off,x≠.lp d off:=fun off c=>by
    rcases hx d off c with ⟨y,hy,ko,ho⟩|⟨_,h⟩
    ·exact PO y hy ko ho
    ·exact hdd h.symm
   by_cases c1:d=e
   ·subst c1;rcases hp with rfl|rfl
    ·simp only [aag,aak];rw [a8 hdd,aN,aN]
    ·simp only [aag,aak];rw [a8 hdd,aN,Dh (fun off=>by rw [aN]; intro c; cases c; exact hdd rfl),aN]
   ·simp only [aag,aak];rw [a8 c1];by_cases c2:d'=e
    ·subst c2;rcases hp with rfl|rfl
     ·simp only [aag,aak];rw [aN,Dh (fun off=>by rw [aN]; exact zM off),aN]
     ·simp only [aag,aak];rw [aN,Dh (fun off=>by rw [aN]; exact zM off),aN]
    ·rcases hp with rfl|rfl
     ·simp only [aag,aak];rw [a8 c2,a8 c1,ng,ng,a8 c2]
     ·simp only [aag,aak];rw [a8 c2,ng,a8 c1,ng,ng,a8 c2,ng];cases lk s.ab e with
      |lp k off=>cases hb:aaN k d <;> cases QW:aaN k d' <;> simp [hb,QW]
      |_=>rfl
 ·show fh (preB++([(d,cs)]++s.boxes)) k=fh ([(d,cs)]++(preB++s.boxes)) k;rcases h2 with rfl|⟨k',ig,rfl,hk⟩
  ·rfl
  ·have UH:k'≠d:=fun c=>by
    subst c;rcases hk with ⟨_,hk⟩|⟨y,hy,off,ho⟩
    ·exact df hk
    ·exact PO y hy off ho
   simp only [aag,aak,fh];cases hb:aaN k' k with
   |true=>
    have:aaN d k=false:=by
     cases QW:aaN d k with
     |true=>exact absurd ((aas hb).trans (aas QW).symm) UH
     |false=>rfl
    rw [this]; rfl
   |false=>rfl
end
section
variable {E:Env} {s t:St} {f:FuncId} {o:Oper} {K K':St→Prop}
theorem Mh (hn:s.n=t.n) (hG:s.G=t.G) (hB:∀ k off,(∃ y∈o.op.operands,bO E s.ab y=.lp k off)→fh s.boxes k=fh t.boxes k) (hY:∀ y∈o.op.operands,bO E s.ab y=bO E t.ab y) (h:ot E f o K s)
  (hK:∀ pre preB G,kX E t o (t.jg pre preB G)→K (s.jg pre preB G)→K' (t.jg pre preB G)):ot E f o K' t:=by
 unfold ot at h ⊢;split at h
 ·rename_i x args tys ho;have h1:bO E s.ab x=bO E t.ab x:=hY x (by rw [ho]; simp [aaa,abA]);have h2:rk E s.ab args.toList=rk E t.ab args.toList:=kV fun y hy=>hY y (by rw [ho]; simp [aaa,abA]; exact .inr (by simpa using hy))
  try simp only [ho]
  rw [← h1,← h2,← hG];split at h
  ·refine eP.mono h fun r G' hk=>?_
   obtain ⟨pre,preB,G,p1,p2,p3,p4⟩:=cH.fH (s:=s) (t:=t) (al:=cK o.op) hn G' o.dst (.v r);rw [p3] at hk;have hO:kX E t o ((t.bM G').put o.dst (.v r)):=pi rfl rfl _;rw [p4] at hO ⊢;exact hK pre preB G hO hk
  ·refine pg.mono h fun r G' hk=>?_
   obtain ⟨pre,preB,G,p1,p2,p3,p4⟩:=cH.fH (s:=s) (t:=t) (al:=cK o.op) hn G' o.dst (.v (.bool r));rw [p3] at hk;have hO:kX E t o ((t.bM G').put o.dst (.v (.bool r))):=pi rfl rfl _;rw [p4] at hO ⊢;exact hK pre preB G hO hk
  ·exact h.elim
 ·exact h.elim
 ·split at h
  ·rename_i c s' hs;obtain ⟨t',h1,pre,preB,G,p1,p2,p3,p4⟩:=yz hn hG hB hY hs;have hO:=Mf h1;rw [h1];obtain ⟨rfl,hk⟩:=h.out;refine fU.mk rfl ?_;rw [p3] at hk;rw [p4] at hO ⊢;exact hK pre preB G hO hk
  ·exact h.elim
theorem NX (ha:cK o.op=true):ot E f o K s↔∃ s',aq E f s o=some (true,s')∧K s':=by
 unfold ot;split
 ·rename_i h;rw [h] at ha;simp [cK] at ha
 ·rename_i h;rw [h] at ha;simp [cK] at ha
 ·split
  ·rename_i c s' hs;constructor
   ·intro h;obtain ⟨rfl,hk⟩:=h.out;exact ⟨s',hs,hk⟩
   ·rintro ⟨He,h1,h2⟩;rw [hs] at h1;cases h1;exact fU.mk rfl h2
  ·rename_i hs;constructor
   ·exact fun h=>h.elim
   ·rintro ⟨He,h1,_⟩;rw [hs] at h1;cases h1
end
end Go.Am
namespace Go.Am
open Go
section
variable {E:Env} {s t:St} {f:FuncId} {ops:Array Oper} {o oj oi:Oper} {d:Tmp} {x:SV} {K K':St→Prop} {fN:Nat→List Nat} {C:List Nat}
def PP (E:Env) (f:FuncId) (ops:Array Oper) (fN:Nat→List Nat) (C:List Nat) (i:Nat) (s:St):Prop:=
 ∀ j∈C,∀ oj oi,ops[j]?=some oj→ops[i]?=some oi→mZ oj oi=true→j∉fN i→Mb E f ops.toList oj s
def NC (ops:Array Oper) (C:List Nat):Prop:=∀ j∈C,∀ oj,ops[j]?=some oj→zN oj.op=true
theorem vA {i:Nat} (hC:NC ops C):Inv (PP E f ops fN C i):=fun _ _ e h j hj oj oi h1 h2 h3 h4=>Vw (hC j hj oj h1) e (h j hj oj oi h1 h2 h3 h4)
def jz (E:Env) (f:FuncId) (ops:Array Oper) (fN:Nat→List Nat) (C:List Nat) (K:St→Prop):Nat→Array Bool→St→Prop
 |0,listed,s=>aaq .any ops listed=[]∧K s
 |n+1,listed,s=>(aaq .any ops listed=[]→K s) ∧
   ∀ i∈aaq .any ops listed,∀ oi,ops[i]?=some oi→dh E f ops.toList oi (fun s'=>PP E f ops fN C i s'∧jz E f ops fN C K n (listed.setIfInBounds i true) s') s
theorem kY (hC:NC ops C) (hK:Inv K):∀ n listed,Inv (jz E f ops fN C K n listed)
 |0,_=>fun s t e h=>⟨h.1,hK s t e h.2⟩
 |n+1,_=>fun s t e h=>⟨fun h0=>hK s t e (h.1 h0),fun i hi oi yB=>Jh (fun s t e h=>⟨vA hC s t e h.1,kY hC hK n _ s t e h.2⟩) s t e (h.2 i hi oi yB)⟩
theorem s8 {C':List Nat}:∀ n (listed:Array Bool) (s:St),
  (∀ k∈C',k∈C∨∀ i ok oi,ops[k]?=some ok→ops[i]?=some oi→listed.getD i true=false→mZ ok oi=true→k∈fN i) →
  jz E f ops fN C K n listed s→jz E f ops fN C' K n listed s
 |0,_,_,_,h=>h
 |n+1,listed,s,hk,h=>⟨h.1,fun i hi oi yB=>dm (h.2 i hi oi yB) fun s' h'=>⟨fun k hkC ok Yy h1 h2 h3 h4=>by
   rcases hk k hkC with h5|h5
   ·exact h'.1 k h5 ok Yy h1 h2 h3 h4
   ·exact absurd (h5 i ok Yy h1 h2 (mem_ready.1 hi).1 h3) h4,s8 n _ s' (fun k hkC=>by
   rcases hk k hkC with h5|h5
   ·exact .inl h5
   ·refine .inr fun i' ok Yy h1 h2 h3 h4=>h5 i' ok Yy h1 h2 ?_ h4
    by_cases e:i=i'
    ·subst e; exact (mem_ready.1 hi).1
    ·rw [getD_set_ne true e] at h3; exact h3) h'.2⟩⟩
def FY (ops:Array Oper) (fN:Nat→List Nat):Prop:=∀ i oi a,ops[i]?=some oi→a∈fN i→∃ e∈oi.after,abp .any e=true∧(e.on=a∨a∈fN e.on)
def s9 (fN:Nat→List Nat) (listed:Array Bool):Prop:=∀ i,listed.getD i false=true→∀ a∈fN i,listed.getD a false=true
theorem s9.ready {listed:Array Bool} (h:s9 fN listed) (ha:FY ops fN) {i:Nat} (hi:i∈aaq .any ops listed):∀ a∈fN i,listed.getD a false=true:=fun a haa=>by
 obtain ⟨_,o,ho,yC⟩:=mem_ready.1 hi;obtain ⟨e,he,hb,h2⟩:=ha i o a ho haa;rcases h2 with rfl|h2
 ·exact yC e he hb
 ·exact h _ (yC e he hb) a h2
theorem nY {listed:Array Bool} {i:Nat} (h:listed.getD i false=true):listed.getD i true=true:=by
 rw [abu] at *;cases hl:listed[i]? with
 |none=>rw [hl] at h; cases h
 |some b=>rw [hl] at h; exact h
theorem s9.add {listed:Array Bool} (h:s9 fN listed) (ha:FY ops fN) {i:Nat} (hi:i∈aaq .any ops listed):s9 fN (listed.setIfInBounds i true):=fun k hk a haa=>by
 by_cases e:i=k
 ·subst e;exact getD_set_true (h.ready ha hi a haa)
 ·rw [getD_set_ne false e] at hk;exact getD_set_true (h k hk a haa)
theorem Mi (hA:FY ops fN) (hC:NC ops C) (hK:Inv K) {j:Nat} (hj:ops[j]?=some oj) (hN:zN oj.op=true) (NV:oj.dst=some d) (Jj:d∉oj.looksAt ops)
  (hCd:∀ k∈C,∀ ok,ops[k]?=some ok→d∉ok.looksAt ops∧ok.dst≠some d):∀ n (listed:Array Bool) (s:St) (x:SV),s9 fN listed →
   (∀ i oi,ops[i]?=some oi→i≠j→listed.getD i true=false→(∀ e∈oi.after,abp .any e=true→e.on≠j)→oj.apart ops oi=true) →
   j∈aaq .any ops listed→Dd E f ops oj s x→jz E f ops fN (j :: C) K n (listed.setIfInBounds j true) (s.put (some d) x)→jz E f ops fN C K (n+1) listed s:=by
 have UO:NC ops (j :: C):=fun k hk ok ho=>by
  rcases abr.1 hk with rfl|hk
  ·rw [hj] at ho; cases ho; exact hN
  ·exact hC k hk ok ho
 have self:∀ n (listed:Array Bool) (s:St) (x:SV),Dd E f ops oj s x→jz E f ops fN (j :: C) K n (listed.setIfInBounds j true) (s.put (some d) x)→∀ oi,ops[j]?=some oi →
   dh E f ops.toList oi (fun s'=>PP E f ops fN C j s'∧jz E f ops fN C K n (listed.setIfInBounds j true) s') s:=fun n listed s x hx h oi yB=>by
  rw [hj] at yB;cases yB;refine Df hN (fun s t e h=>⟨vA hC s t e h.1,kY hC hK _ _ s t e h.2⟩) hx ?_;rw [NV];refine ⟨fun k _ ok Yy _ h2 h3 _=>?_,s8 n _ _ (fun k hk=>.inl (abN _ hk)) h⟩;rw [hj] at h2;cases h2;simp [mZ,Jf hN,hN] at h3
 intro n
 induction n with
 |zero=>
  intro listed s x _ _ hr hx h;refine ⟨fun h0=>by rw [h0] at hr; simp at hr,fun i hi oi yB=>?_⟩;by_cases e:i=j
  ·subst e; exact self 0 listed s x hx h oi yB
  ·have:=ready_mono hi e;rw [h.1] at this;simp at this
 |succ n ih=>
  intro listed s x lE oW hr hx h;refine ⟨fun h0=>by rw [h0] at hr; simp at hr,fun i hi oi yB=>?_⟩;by_cases e:i=j
  ·subst e; exact self (n+1) listed s x hx h oi yB
  ·have Sg:=(mem_ready.1 hi).1;have VA:=(mem_ready.1 hr).1;have ZU:∀ ed∈oi.after,abp .any ed=true→ed.on≠j:=fun ed he hb oK=>by
    obtain ⟨_,o,ho,yC⟩:=mem_ready.1 hi;rw [yB] at ho;cases ho;have h1:=nY (yC ed he hb);rw [oK,VA] at h1;cases h1
   have Vo:=oW i oi yB e Sg ZU;have hG:=h.2 i (ready_mono hi e) oi yB;have Sh:j∉fN i:=fun hm=>by
    have h1:=nY (lE.ready hA hi j hm);rw [VA] at h1;cases h1
   have hKi:Inv (fun s'=>PP E f ops fN (j :: C) i s'∧jz E f ops fN (j :: C) K n ((listed.setIfInBounds j true).setIfInBounds i true) s'):=
    fun s t e h=>⟨vA UO s t e h.1,kY UO hK _ _ s t e h.2⟩
   have aat:∀ k ok,ops[k]?=some ok→k≠j→(listed.setIfInBounds i true).getD k true=false→(∀ e∈ok.after,abp .any e=true→e.on≠j)→oj.apart ops ok=true:=fun k ok hk hkj hku xe=>by
    refine oW k ok hk hkj ?_ xe;by_cases e':i=k
    ·subst e'; exact Sg
    ·rw [getD_set_ne true e'] at hku; exact hku
   have core:∀ {pre:bz} {preB:dX} {G:List GO},Pre (cK oi.op) oi.dst pre→(zN oi.op=true→preB=[]∧G=s.G) →
     (PP E f ops fN (j :: C) i ((s.put (some d) x).jg pre preB G)∧jz E f ops fN (j :: C) K n ((listed.setIfInBounds j true).setIfInBounds i true) ((s.put (some d) x).jg pre preB G)) →
     PP E f ops fN C i (s.jg pre preB G)∧jz E f ops fN C K (n+1) (listed.setIfInBounds i true) (s.jg pre preB G):=by
    intro pre preB G Jk hNi hk;obtain ⟨x',zM,ly⟩:=PJ hN NV Jj Vo hKi hx Jk hNi hk (fun t' wh hd=>wh.1 j (List.mem_cons_self ..) oj oi hj yB hd Sh);refine ⟨fun k hkC ok Yy h1 h2 h3 h4=>?_,?_⟩
    ·obtain ⟨q1,q2⟩:=hCd k hkC ok h1;obtain ⟨b1,b2,b3,_⟩:=jM (s.jg pre preB G) (some d) x';exact Vv (hC k hkC ok h1) q1 q2 (fun e he=>B8 _ _ _ he) (by rw [b1]) b2 b3 (ly.1 k (abN _ hkC) ok Yy h1 h2 h3 h4)
    ·refine ih (listed.setIfInBounds i true) _ x' (lE.add hA hi) aat (ready_mono hr (Ne.symm e)) zM ?_;rw [abK _ _ e];exact ly.2
   rw [jL (fun s t e h=>⟨vA hC s t e h.1,kY hC hK _ _ s t e h.2⟩)];obtain ⟨UK,_,_⟩:=abL Vo;have A6:∀ e∈oi.looksAt ops,lk (s.put (some d) x).ab e=lk s.ab e:=fun e he=>B8 s d x fun k=>UK d NV (k ▸ he)
   obtain ⟨b1,b2,b3,b4,b5⟩:=jM s (some d) x;rcases (jL hKi).1 hG with ⟨h1,h2⟩|⟨h1,h2⟩
   ·refine .inl ⟨by rw [← oM A6]; exact h1,An b3 b2 (by rw [b1]) (ph A6) h2 fun pre preB G hp hNi hk=>core hp (fun hh=>?_) hk⟩;obtain ⟨q1,q2⟩:=hNi hh;exact ⟨q1,by rw [q2,b2]⟩
   ·refine .inr ⟨by rw [← oM A6]; exact h1,?_⟩;obtain ⟨pre,preB,G,p1,p2,p3,p4⟩:=cH.put (s:=s.put (some d) x) (t:=s) (al:=cK oi.op) (w:=false) b3 b2 oi.dst (.v jE);obtain ⟨q1,q2,_⟩:=p2 rfl;rw [p3] at h2;rw [p4];exact core p1 (fun _=>⟨q1,by rw [q2,b2]⟩) h2
theorem NY {i:Nat} {s:St}:PP E f ops fN [] i s:=fun j hj=>by cases hj
theorem aau {y:Operand} {k off:Nat} (h:bO E s.ab y=.lp k off):∃ e,y=.tmp e∧lk s.ab e=.lp k off:=by
 cases y with
 |tmp e=>exact ⟨e,rfl,h⟩
 |const v=>simp only [bO] at h; split at h <;> cases h
 |global g=>simp only [bO] at h; split at h <;> cases h
 |func g=>cases h
theorem Si (hA:FY ops fN) (hK:Inv K) {j:Nat} (hj:ops[j]?=some oj) (hg:oj.guard=none) (NV:oj.dst=some d) (PK:cK oj.op=true) (aav:E.E0 f d=false):∀ n (listed:Array Bool) (s s1:St),s9 fN listed →
  (∀ i oi,ops[i]?=some oi→i≠j→listed.getD i true=false→j∉fN i→oj.apart ops oi=true∧∀ e∈oi.looksAt ops,∀ off,lk s.ab e≠.lp d off) →
  j∈aaq .any ops listed→aq E f s oj=some (true,s1)→jz E f ops fN [] K n (listed.setIfInBounds j true) s1→jz E f ops fN [] K (n+1) listed s:=by
 have UO:NC ops []:=fun k hk=>by cases hk
 have self:∀ n (listed:Array Bool) (s s1:St),aq E f s oj=some (true,s1)→jz E f ops fN [] K n (listed.setIfInBounds j true) s1→∀ oi,ops[j]?=some oi →
   dh E f ops.toList oi (fun s'=>PP E f ops fN [] j s'∧jz E f ops fN [] K n (listed.setIfInBounds j true) s') s:=fun n listed s s1 hx h oi yB=>by
  rw [hj] at yB;cases yB;unfold dh;rw [hg];exact (NX PK).2 ⟨s1,hx,NY,h⟩
 intro n
 induction n with
 |zero=>
  intro listed s s1 _ _ hr hx h;refine ⟨fun h0=>by rw [h0] at hr; simp at hr,fun i hi oi yB=>?_⟩;by_cases e:i=j
  ·subst e; exact self 0 listed s s1 hx h oi yB
  ·have:=ready_mono hi e;rw [h.1] at this;simp at this
 |succ n ih=>
  intro listed s s1 lE oW hr hx h;refine ⟨fun h0=>by rw [h0] at hr; simp at hr,fun i hi oi yB=>?_⟩;by_cases e:i=j
  ·subst e; exact self (n+1) listed s s1 hx h oi yB
  ·have Sg:=(mem_ready.1 hi).1;have VA:=(mem_ready.1 hr).1;have Sh:j∉fN i:=fun hm=>by
    have h1:=nY (lE.ready hA hi j hm);rw [VA] at h1;cases h1
   obtain ⟨Vo,xe⟩:=oW i oi yB e Sg Sh;obtain ⟨UK,df,BK⟩:=abL Vo;have LG:oi.dst≠some d:=df d NV;obtain ⟨_,cs,rfl,NO⟩:=Mg PK NV aav hx;have hG:=h.2 i (ready_mono hi e) oi yB;have hKi:Inv (fun s'=>PP E f ops fN [] i s'∧jz E f ops fN [] K n ((listed.setIfInBounds j true).setIfInBounds i true) s'):=
    fun s t e h=>⟨vA UO s t e h.1,kY UO hK _ _ s t e h.2⟩
   have PO:∀ y∈oi.op.operands,∀ off,bO E s.ab y≠.lp d off:=fun y hy off hv=>by
    obtain ⟨e',rfl,hv⟩:=aau hv;exact xe e' (s7 hy) off hv
   have core:∀ {pre:bz} {preB:dX} {G:List GO},kX E s oi (s.jg pre preB G) →
     (PP E f ops fN [] i ((xn s d cs).jg pre preB G)∧jz E f ops fN [] K n ((listed.setIfInBounds j true).setIfInBounds i true) ((xn s d cs).jg pre preB G)) →
     PP E f ops fN [] i (s.jg pre preB G)∧jz E f ops fN [] K (n+1) (listed.setIfInBounds i true) (s.jg pre preB G):=by
    intro pre preB G Sf hk;refine ⟨NY,?_⟩;obtain ⟨o1,o2⟩:=NW Sf;have A6:∀ e' off,oi.dst≠some e'∨lk (s.jg pre preB G).ab e'=.lp d off→lk (s.jg pre preB G).ab e'=.lp d off→lk s.ab e'=.lp d off:=by
     intro e' off _ hv;have hv:lk (pre++s.ab) e'=.lp d off:=hv;rcases o1 with rfl|⟨d',x,ND,hp,VB⟩
     ·exact hv
     ·have zM:∀ off,x≠.lp d off:=fun off c=>by
       rcases VB d off c with ⟨y,hy,ko,ho⟩|⟨_,h⟩
       ·exact PO y hy ko ho
       ·exact LG (by rw [ND,h])
      by_cases c2:d'=e'
      ·subst c2;rcases hp with rfl|rfl
       ·simp only [aag,aak,aN] at hv; exact absurd hv (zM off)
       ·simp only [aag,aak,aN] at hv; exact absurd hv (zM off)
      ·rcases hp with rfl|rfl
       ·simp only [aag,aak] at hv; rwa [a8 c2] at hv
       ·simp only [aag,aak] at hv;rw [a8 c2,ng] at hv;cases hl:lk s.ab e' with
        |lp k ko=>
         rw [hl] at hv;simp only at hv;cases hb:aaN k d' with
         |true=>rw [hb] at hv; cases hv
         |false=>rw [hb] at hv; exact hv
        |v a=>rw [hl] at hv; cases hv
        |none=>rw [hl] at hv; cases hv
    refine ih (listed.setIfInBounds i true) _ _ (lE.add hA hi) ?_ (ready_mono hr (Ne.symm e)) (NO (s.jg pre preB G) rfl ?_) ?_
    ·intro k ok ly hkj hku aiJ;have aiK:listed.getD k true=false:=by
      by_cases e':i=k
      ·subst e'; exact Sg
      ·rw [getD_set_ne true e'] at hku; exact hku
     obtain ⟨q1,q2⟩:=oW k ok ly hkj aiK aiJ;exact ⟨q1,fun e' UP off hv=>q2 e' UP off (A6 e' off (.inr hv) hv)⟩
    ·intro y hy v hv;cases y with
     |tmp e'=>
      have ND:oi.dst≠some e':=fun c=>BK e' c (s7 hy)
      have hv:lk s.ab e'=.v v:=hv;show lk (pre++s.ab) e'=.v v;rcases o1 with rfl|⟨d',x,hd2,hp,_⟩
      ·exact hv
      ·have c2:d'≠e':=fun c=>ND (by rw [hd2,c])
       rcases hp with rfl|rfl
       ·simp only [aag,aak]; rw [a8 c2]; exact hv
       ·simp only [aag,aak];rw [a8 c2,Dh (fun off=>by rw [hv]; intro c; cases c)]; exact hv
     |const _=>exact hv
     |global _=>exact hv
     |func _=>exact hv
    ·rw [abK _ _ e];exact kY UO hK _ _ _ _ (PN cs Sf LG PO) hk.2
   have Hn:∀ e'∈oi.looksAt ops,lk (xn s d cs).ab e'=lk s.ab e':=fun e' UP=>by
    have c1:d≠e':=fun c=>UK d NV (c ▸ UP)
    show lk (.put d (.lp d 0) :: .kill d :: s.ab) e'=_;rw [a8 c1,Dh (xe e' UP)]
   have CQ:∀ k off,(∃ y∈oi.op.operands,bO E (xn s d cs).ab y=.lp k off)→fh (xn s d cs).boxes k=fh s.boxes k:=by
    rintro k off ⟨y,hy,hv⟩;rw [ph Hn y hy] at hv;have UH:d≠k:=fun c=>PO y hy off (by rw [c]; exact hv)
    show fh ((d,cs) :: s.boxes) k=fh s.boxes k;simp only [fh];cases hb:aaN d k with
    |true=>exact absurd (aas hb) UH
    |false=>rfl
   rw [jL (fun s t e h=>⟨vA UO s t e h.1,kY UO hK _ _ s t e h.2⟩)];rcases (jL hKi).1 hG with ⟨h1,h2⟩|⟨h1,h2⟩
   ·exact .inl ⟨by rw [← oM Hn]; exact h1,Mh (s:=xn s d cs) (t:=s) rfl rfl CQ (ph Hn) h2 fun pre preB G hO hk=>core hO hk⟩
   ·refine .inr ⟨by rw [← oM Hn]; exact h1,?_⟩;obtain ⟨pre,preB,G,p1,p2,p3,p4⟩:=cH.put (s:=xn s d cs) (t:=s) (al:=cK oi.op) (w:=false) rfl rfl oi.dst (.v jE);rw [p3] at h2;have hO:kX E s oi (s.put oi.dst (.v jE)):=pi rfl rfl _;rw [p4] at hO ⊢;exact core hO h2
end
inductive DT where
 |done
 |take (j:Nat) (C:List Nat) (t:DT)
 |br (i:Nat) (re C:List Nat) (t:DT) (more:DT)
 |stop
 |al (j:Nat) (W:List Nat) (t:DT)
structure tc where
 dst:Option Tmp
 lo:List Tmp
 pr:List Nat
 n:Bool
 r:Bool
 a:Bool
def NZ (d:Nat) (s:bz):List Nat→Bool
 |[]=>true
 |e :: l=>(match lk s e with
  |.lp k _=>!aaN k d
  |_=>true)&&NZ d s l
def aaw (E:Env) (f:FuncId) (o:Oper) (W:List Nat) (s:St):Bool:=match o.guard,o.dst with
 |none,some d=>!E.E0 f d&&NZ d s.ab W
 |_,_=>false
def nZ (x:Nat):List Nat→Bool
 |[]=>false
 |y :: l=>aaN x y || nZ x l
def vB:List Edge→List Nat
 |[]=>[]
 |e :: l=>bif abp .any e then e.on :: vB l else vB l
def pj (ops:Array Oper) (o:Oper):tc:=⟨o.dst,o.looksAt ops,vB o.after.toList,zN o.op,isR o.op,cK o.op⟩
def Ho {α:Type} (n:Nat) (K:Nat→α):α:=match n with
 |0=>K 0
 |m+1=>K (Nat.succ m)
def FZ {α:Type}:List Nat→(List Nat→α)→α
 |[],K=>K []
 |a :: l,K=>Ho a fun a=>FZ l fun l=>K (a :: l)
def aax {α:Type} (i:tc) (K:tc→α):α:=match i with
 |⟨d,lo,pr,n,r,a⟩=>FZ lo fun lo=>FZ pr fun pr=>(match d with
  |none=>(fun (K:Option Tmp→α)=>K none)
  |some d=>(fun (K:Option Tmp→α)=>Ho d fun d=>K (some d))) fun d=>(bif n then (fun (K:Bool→α)=>K true) else fun K=>K false) fun n=>
   (bif r then (fun (K:Bool→α)=>K true) else fun K=>K false) fun r=>(bif a then (fun (K:Bool→α)=>K true) else fun K=>K false) fun a=>K ⟨d,lo,pr,n,r,a⟩
def N0 {α:Type}:List tc→(List tc→α)→α
 |[],K=>K []
 |i :: l,K=>aax i fun i=>N0 l fun l=>K (i :: l)
def Ap (x y:tc):Bool:=
 (match x.dst with
 |some d=>!nZ d y.lo&&(match y.dst with | some e=>!aaN e d | none=>true)
 |none=>true) &&
 (match y.dst with
 |some d=>!nZ d x.lo
 |none=>true)
def Jm (j:Nat) (x:tc) (cf:List Nat):Nat→List tc→Bool
 |_,[]=>true
 |i,y :: l=>(aaN i j || nZ j y.pr || nZ i cf || Ap x y)&&Jm j x cf (i+1) l
def Jn (I:List tc):Nat→List tc→List (List Nat)→Bool
 |_,[],_=>true
 |j,x :: l,c :: cs=>(!x.n || Jm j x c 0 I)&&Jn I (j+1) l cs
 |_,_,_=>false
def Di (fN:Nat→List Nat):Nat→List tc→Bool
 |_,[]=>true
 |i,x :: l=>(fN i).all (fun a=>x.pr.any fun e=>aaN e a || nZ a (fN e))&&Di fN (i+1) l
def td (L:Nat):Nat→List tc→List Nat
 |_,[]=>[]
 |i,x :: l=>bif !L.testBit i&&x.pr.all (fun e=>L.testBit e) then i :: td L (i+1) l else td L (i+1) l
def vC (x y:tc):Bool:=y.a || (x.r&&!y.n)
def vD (fN:Nat→List Nat) (L k:Nat) (x:tc):Nat→List tc→Bool
 |_,[]=>true
 |i,y :: l=>(L.testBit i || !vC x y || nZ k (fN i))&&vD fN L k x (i+1) l
def B9 (I:List tc) (fN:Nat→List Nat) (L:Nat) (C C':List Nat):Bool:=C.all fun k=>nZ k C' || match nth I k with
 |none=>false
 |some x=>vD fN L k x 0 I
def Yz (I:List tc) (fN:Nat→List Nat) (C re:List Nat) (i:Nat) (y:tc):Bool:=C.all fun k=>nZ k re || match nth I k with
 |none=>false
 |some x=>!vC x y || nZ k (fN i)
def N1 (fN:Nat→List Nat) (L:Nat) (W:List Nat) (j:Nat) (x:tc):Nat→List tc→Bool
 |_,[]=>true
 |i,y :: l=>(aaN i j || L.testBit i || nZ j (fN i) || (Ap x y&&y.lo.all fun e=>nZ e W))&&N1 fN L W j x (i+1) l
def N2 (I:List tc) (C:List Nat):Bool:=C.all fun k=>match nth I k with
 |some x=>x.n
 |none=>false
def qb (I:List tc) (N:Nat) (fN:Nat→List Nat) (cf:List (List Nat)):DT→Nat→List Nat→Nat→Option (List Nat)→Bool
 |.done,_,_,L,none=>aaN L N
 |.take j C' t,n+1,C,L,none=>match nth I j,nth cf j with
  |some x,some c=>match x.dst with
   |none=>false
   |some d=>x.n&&!nZ d x.lo&&(C.all fun k=>match nth I k with
     |none=>false
     |some y=>!nZ d y.lo&&(match y.dst with | some e=>!aaN e d | none=>true)) &&
    c.all (fun i=>L.testBit i)&&!L.testBit j&&x.pr.all (fun e=>L.testBit e)&&N2 I C' &&
    Ho (L ||| 2 ^ j) fun L'=>B9 I fN L' (j :: C) C'&&qb I N fN cf t n C' L' none
  |_,_=>false
 |.br i re C' t more,n+1,C,L,left=>match nth I i with
  |none=>false
  |some y=>(match left with
   |none=>fun (K:List Nat→Bool)=>FZ (td L 0 I) K
   |some l=>fun K=>K l) fun l=>
    Yz I fN C re i y&&N2 I C'&&nZ i l&&(Ho (L ||| 2 ^ i) fun L'=>B9 I fN L' C C'&&qb I N fN cf t n C' L' none) &&
     qb I N fN cf more (n+1) C L (some (l.filter fun k=>!aaN k i))
 |.stop,_,_,_,some l=>l.isEmpty
 |.al j W t,n+1,C,L,none=>match nth I j with
  |some x=>match x.dst with
   |none=>false
   |some _=>C.isEmpty&&x.a&&!L.testBit j&&x.pr.all (fun e=>L.testBit e)&&N1 fN L W j x 0 I&&Ho (L ||| 2 ^ j) fun L'=>qb I N fN cf t n [] L' none
  |none=>false
 |_,_,_,_,_=>false
def F1 (E:Env) (f:FuncId) (ops:List Oper):List Nat→St→Prop
 |[],_=>True
 |k :: l,s=>(match nth ops k with
  |some ok=>Mb E f ops ok s
  |none=>True)∧F1 E f ops l s
def zO (E:Env) (f:FuncId) (ops:List Oper):DT→(St→Prop)→St→Prop
 |.done,K,s=>K s
 |.take j _ t,K,s=>match nth ops j with
  |some oj=>dh E f ops oj (zO E f ops t K) s
  |none=>False
 |.br i re _ t more,K,s=>(match nth ops i with
  |some oi=>dh E f ops oi (fun s'=>F1 E f ops re s'∧zO E f ops t K s') s
  |none=>False)∧zO E f ops more K s
 |.stop,_,_=>True
 |.al j W t,K,s=>match nth ops j with
  |some oj=>aaw E f oj W s=true∧dh E f ops oj (zO E f ops t K) s
  |none=>False
def Sj (l:List (List Nat)) (i:Nat):List Nat:=match nth l i with
 |some a=>a
 |none=>[]
section
variable {E:Env} {s t:St} {f:FuncId} {ops:Array Oper} {K:St→Prop} {fN:Nat→List Nat}
theorem iB {x:Nat}:∀ {l:List Nat},nZ x l=true↔x∈l
 |[]=>by simp [nZ]
 |y :: l=>by simp [nZ,iB (l:=l)]
theorem te {α:Type} (n:Nat) (K:Nat→α):Ho n K=K n:=by cases n <;> rfl
theorem Dj {α:Type}:∀ (l:List Nat) (K:List Nat→α),FZ l K=K l
 |[],_=>rfl
 |a :: l,K=>by simp only [FZ,te]; rw [Dj]
theorem VC {α:Type} (i:tc) (K:tc→α):aax i K=K i:=by
 obtain ⟨d,lo,pr,n,r,a⟩:=i;cases d <;> cases n <;> cases r <;> cases a <;> simp [aax,Dj,te]
theorem Jo {α:Type}:∀ (l:List tc) (K:List tc→α),N0 l K=K l
 |[],_=>rfl
 |a :: l,K=>by simp only [N0,VC]; rw [Jo]
def po (ops:Array Oper):List tc:=ops.toList.map (pj ops)
theorem yD {k:Nat} {x:tc} (h:nth (po ops) k=some x):∃ o,ops[k]?=some o∧x=pj ops o:=by
 rw [aV,po,List.getElem?_map,aaG] at h;cases ho:ops[k]? with
 |none=>rw [ho] at h; cases h
 |some o=>rw [ho] at h; exact ⟨o,rfl,by simpa using h.symm⟩
theorem mo {e:Nat}:∀ {l:List Edge},e∈vB l↔∃ ed∈l,abp .any ed=true∧ed.on=e
 |[]=>by simp [vB]
 |x :: l=>by
  unfold vB;cases hb:abp .any x with
  |true=>
   simp only [cond_true,abr,mo (l:=l),exists_eq_or_imp,hb,true_and];constructor
   ·rintro (h|h)
    ·exact .inl h.symm
    ·exact .inr h
   ·rintro (h|h)
    ·exact .inl h.symm
    ·exact .inr h
  |false=>simp only [cond_false,abr,mo (l:=l),exists_eq_or_imp,hb,false_and,false_or,abz]
theorem F2 {x y:Oper} (h:Ap (pj ops x) (pj ops y)=true):x.apart ops y=true:=by
 have hm:∀ (d:Nat) (l:List Nat),nZ d l=false→l.contains d=false:=fun d l h=>by
  cases hc:l.contains d with
  |false=>rfl
  |true=>rw [iB.2 (by simpa using hc)] at h; cases h
 unfold Ap at h;unfold Oper.apart;simp only [pj,aah] at h ⊢;refine ⟨?_,?_⟩
 ·cases hx:x.dst with
  |none=>rfl
  |some d=>
   rw [hx] at h;simp only [aah,abx] at h ⊢;refine ⟨hm _ _ h.1.1,?_⟩;have h2:=h.1.2;cases hy:y.dst with
   |none=>rfl
   |some e=>
    rw [hy] at h2;simp only [abx] at h2;have:e≠d:=fun k=>by rw [k,xT] at h2; cases h2
    simpa using this
 ·cases hy:y.dst with
  |none=>rfl
  |some d=>
   rw [hy] at h;simp only [abx] at h ⊢;exact hm _ _ h.2
def Jp (ops:Array Oper) (L:Nat) (listed:Array Bool):Prop:=listed.size=ops.size∧∀ i,i < ops.size→listed[i]?=some (L.testBit i)
theorem Jp.add {L:Nat} {listed:Array Bool} (h:Jp ops L listed) (j:Nat):Jp ops (L ||| 2 ^ j) (listed.setIfInBounds j true):=by
 refine ⟨by simp [h.1],fun i hi=>?_⟩;rw [Nat.testBit_or,Nat.testBit_two_pow];by_cases e:j=i
 ·subst e;rw [Array.getElem?_setIfInBounds_self_of_lt (by rw [h.1]; exact hi)];simp
 ·rw [Array.getElem?_setIfInBounds_ne e,h.2 i hi];simp [e]
theorem Jp.Jq {L:Nat} {listed:Array Bool} (h:Jp ops L listed) {i:Nat} (hi:i < ops.size) (b:Bool):listed.getD i b=L.testBit i:=by
 rw [abu,h.2 i hi]; rfl
theorem xo {L:Nat} {listed:Array Bool} (h:Jp ops L listed) {j:Nat} {o:Oper} (ho:ops[j]?=some o) (h1:L.testBit j=false) (h2:((pj ops o).pr.all fun e=>L.testBit e)=true)
  (cE:∀ e∈o.after,abp .any e=true→e.on < ops.size):j∈aaq .any ops listed:=by
 have hj:j < ops.size:=(aaF.1 ho).1;refine mem_ready.2 ⟨by rw [h.Jq hj]; exact h1,o,ho,fun e he hb=>?_⟩;rw [h.Jq (cE e he hb)];exact aar.1 h2 e.on (mo.2 ⟨e,by simpa using he,hb,rfl⟩)
def aay (n:Nat) (I:List tc):Bool:=I.all fun x=>x.pr.all fun e=>abJ e n
theorem kv {k:Nat} {o:Oper} (h:ops[k]?=some o):nth (po ops) k=some (pj ops o):=by
 rw [aV,po,List.getElem?_map,aaG,h]; rfl
theorem pq {k:Nat} {o:Oper} (h:ops[k]?=some o):(po ops)[k]?=some (pj ops o):=by
 rw [← aV]; exact kv h
theorem vE (h:aay ops.size (po ops)=true) {k:Nat} {o:Oper} (ho:ops[k]?=some o):∀ e∈o.after,abp .any e=true→e.on < ops.size:=fun e he hb=>by
 have h1:=aar.1 h (pj ops o) (List.mem_of_getElem? (pq ho));have h2:=aar.1 h1 e.on (mo.2 ⟨e,by simpa using he,hb,rfl⟩);exact Nat.le_of_ble_eq_true h2
theorem Dk {j:Nat} {x:tc} {c:List Nat}:∀ {l:List tc} {i:Nat},Jm j x c i l=true→∀ k y,l[k]?=some y→(aaN (i+k) j || nZ j y.pr || nZ (i+k) c || Ap x y)=true
 |[],_,_,k,y,hk=>by simp at hk
 |z :: l,i,h,k,y,hk=>by
  unfold Jm at h;rw [aah] at h;cases k with
  |zero=>simp at hk; subst hk; exact h.1
  |succ k=>
   have:=Dk h.2 k y (by simpa using hk);rw [show i+1+k=i+(k+1) by omega] at this;exact this
theorem Dl {I:List tc}:∀ {l:List tc} {j:Nat} {cs:List (List Nat)},Jn I j l cs=true→∀ k x c,l[k]?=some x→cs[k]?=some c→x.n=true→Jm (j+k) x c 0 I=true
 |[],_,_,_,k,x,c,hk,_,_=>by simp at hk
 |z :: l,j,[],_,k,x,c,_,hc,_=>by simp at hc
 |z :: l,j,d :: cs,h,k,x,c,hk,hc,hn=>by
  unfold Jn at h;rw [aah] at h;cases k with
  |zero=>
   simp at hk hc;subst hk hc;have:=h.1;rw [hn] at this;simpa using this
  |succ k=>
   have:=Dl h.2 k x c (by simpa using hk) (by simpa using hc) hn;rw [show j+1+k=j+(k+1) by omega] at this;exact this
theorem Bi:∀ {l:List tc} {i:Nat},Di fN i l=true→∀ k x,l[k]?=some x→∀ a∈fN (i+k),∃ e∈x.pr,e=a∨a∈fN e
 |[],_,_,k,x,hk=>by simp at hk
 |z :: l,i,h,k,x,hk=>by
  unfold Di at h;rw [aah] at h;cases k with
  |zero=>
   simp at hk;subst hk;intro a ha;have h1:=aar.1 h.1 a ha;obtain ⟨e,he,h2⟩:=List.any_eq_true.1 h1;rw [abv] at h2;refine ⟨e,he,?_⟩;rcases h2 with h2|h2
   ·exact .inl (aas h2)
   ·exact .inr (iB.1 h2)
  |succ k=>
   have:=Bi h.2 k x (by simpa using hk);rw [show i+1+k=i+(k+1) by omega] at this;exact this
theorem Mj (h:Di fN 0 (po ops)=true):FY ops fN:=fun i oi a hi ha=>by
 have h1:=Bi h i _ (pq hi) a (by rw [abt]; exact ha);obtain ⟨e,he,h2⟩:=h1;obtain ⟨ed,q1,q2,rfl⟩:=mo.1 he;exact ⟨ed,by simpa using q1,q2,h2⟩
theorem uG {L:Nat}:∀ {l:List tc} {i k:Nat},k∈td L i l↔∃ j x,k=i+j∧l[j]?=some x∧L.testBit k=false∧(x.pr.all fun e=>L.testBit e)=true
 |[],i,k=>by simp [td]
 |z :: l,i,k=>by
  have ih:=uG (L:=L) (l:=l) (i:=i+1) (k:=k);have rest:(∃ j x,k=i+1+j∧l[j]?=some x∧L.testBit k=false∧(x.pr.all fun e=>L.testBit e)=true)↔∃ j x,k=i+(j+1)∧(z :: l)[j+1]?=some x∧L.testBit k=false∧(x.pr.all fun e=>L.testBit e)=true:=by
   constructor
   ·rintro ⟨j,x,h1,h2⟩; exact ⟨j,x,by omega,by simpa using h2⟩
   ·rintro ⟨j,x,h1,h2⟩; exact ⟨j,x,by omega,by simpa using h2⟩
  unfold td;cases hc:(!L.testBit i&&z.pr.all fun e=>L.testBit e) with
  |true=>
   simp only [cond_true,abr,ih,rest];rw [aah,abx] at hc;constructor
   ·rintro (rfl|⟨j,x,h⟩)
    ·exact ⟨0,z,rfl,rfl,hc⟩
    ·exact ⟨j+1,x,h⟩
   ·rintro ⟨j,x,h1,h2⟩;cases j with
    |zero=>exact .inl h1
    |succ j=>exact .inr ⟨j,x,h1,h2⟩
  |false=>
   simp only [cond_false,ih,rest];constructor
   ·rintro ⟨j,x,h⟩; exact ⟨j+1,x,h⟩
   ·rintro ⟨j,x,h1,h2,h3,h4⟩;cases j with
    |zero=>
     simp at h2 h1;subst h1 h2;rw [h3,h4] at hc;cases hc
    |succ j=>exact ⟨j,x,h1,h2,h3,h4⟩
theorem uH {L k:Nat} {x:tc}:∀ {l:List tc} {i:Nat},vD fN L k x i l=true→∀ j y,l[j]?=some y→L.testBit (i+j)=false→vC x y=true→k∈fN (i+j)
 |[],_,_,j,y,hj=>by simp at hj
 |z :: l,i,h,j,y,hj=>by
  unfold vD at h;rw [aah] at h;cases j with
  |zero=>
   simp at hj;subst hj;intro h1 h2;have h3:=h.1;rw [Nat.add_zero] at h1;rw [h1,h2] at h3;exact iB.1 (by simpa using h3)
  |succ j=>
   have:=uH h.2 j y (by simpa using hj);rw [show i+1+j=i+(j+1) by omega] at this;exact this
theorem Bj {L:Nat} {listed:Array Bool} (hM:Jp ops L listed) {C C':List Nat} (h:B9 (po ops) fN L C C'=true):∀ k∈C,k∈C'∨∀ i ok oi,ops[k]?=some ok→ops[i]?=some oi→listed.getD i true=false→mZ ok oi=true→k∈fN i:=fun k hk=>by
 have h1:=aar.1 h k hk;rw [abv] at h1;rcases h1 with h1|h1
 ·exact .inl (iB.1 h1)
 ·refine .inr fun i ok oi q1 q2 q3 q4=>?_
  rw [kv q1] at h1;have hi:i < ops.size:=(aaF.1 q2).1;have:=uH h1 i _ (pq q2) (by rw [abt,← hM.Jq hi]; exact q3) q4;rw [abt] at this;exact this
theorem F4 {C:List Nat} (h:N2 (po ops) C=true):NC ops C:=fun k hk ok fQ=>by
 have:=aar.1 h k hk;rw [kv fQ] at this;exact this
theorem Dm {L j:Nat} {x:tc} {W:List Nat}:∀ {l:List tc} {i:Nat},N1 fN L W j x i l=true→∀ k y,l[k]?=some y→(aaN (i+k) j || L.testBit (i+k) || nZ j (fN (i+k)) || (Ap x y&&y.lo.all fun e=>nZ e W))=true
 |[],_,_,k,y,hk=>by simp at hk
 |z :: l,i,h,k,y,hk=>by
  unfold N1 at h;rw [aah] at h;cases k with
  |zero=>simp at hk; subst hk; exact h.1
  |succ k=>
   have:=Dm h.2 k y (by simpa using hk);rw [show i+1+k=i+(k+1) by omega] at this;exact this
theorem Dn {d:Nat} {s:bz}:∀ {l:List Nat},NZ d s l=true→∀ e∈l,∀ off,lk s e≠.lp d off
 |[],_,e,he,_=>by cases he
 |a :: l,h,e,he,off=>by
  unfold NZ at h;rw [aah] at h;rcases abr.1 he with rfl|he
  ·intro hv;have h1:=h.1;rw [hv] at h1;simp only [xT] at h1;cases h1
  ·exact Dn h.2 e he off
theorem uI {cf:List (List Nat)} (hA:FY ops fN) (hP:aay ops.size (po ops)=true) (hF:Jn (po ops) 0 (po ops) cf=true) (hK:Inv K):∀ (T:DT) (n:Nat) (C:List Nat) (listed:Array Bool) (L:Nat),NC ops C→s9 fN listed→Jp ops L listed →
  (qb (po ops) (2 ^ ops.size - 1) fN cf T n C L none=true→∀ s,zO E f ops.toList T K s→jz E f ops fN C K n listed s) ∧
  (∀ m l,n=m+1→qb (po ops) (2 ^ ops.size - 1) fN cf T n C L (some l)=true→∀ s,zO E f ops.toList T K s→∀ i∈l,i∈aaq .any ops listed→∀ oi,ops[i]?=some oi →
   dh E f ops.toList oi (fun s'=>PP E f ops fN C i s'∧jz E f ops fN C K m (listed.setIfInBounds i true) s') s)
 |.done,n,C,listed,L,hC,lE,hM=>by
  refine ⟨fun h s hs=>?_,fun m l _ h=>by simp [qb] at h⟩;have hL:L=2 ^ ops.size - 1:=aas (by simpa only [qb] using h);have hr:aaq .any ops listed=[]:=by
   apply List.eq_nil_iff_forall_not_mem.2;intro j hj;obtain ⟨h1,o,ho,_⟩:=mem_ready.1 hj;have cE:j < ops.size:=(aaF.1 ho).1;rw [hM.Jq cE,hL,Nat.testBit_two_pow_sub_one] at h1;simp [cE] at h1
  cases n with
  |zero=>exact ⟨hr,hs⟩
  |succ n=>exact ⟨fun _=>hs,fun i hi=>by rw [hr] at hi; simp at hi⟩
 |.stop,n,C,listed,L,hC,lE,hM=>by
  refine ⟨fun h=>by cases n <;> simp [qb] at h,fun m l e h s _ i hi=>?_⟩;subst e;have:l=[]:=by simpa [qb] using h
  rw [this] at hi;simp at hi
 |.al j W T,0,C,listed,L,hC,lE,hM=>⟨fun h=>by simp [qb] at h,fun m l e=>by cases e⟩
 |.al j W T,n+1,C,listed,L,hC,lE,hM=>by
  refine ⟨fun h s hs=>?_,fun m l _ h=>by simp [qb] at h⟩;unfold qb at h;split at h
  ·rename_i x hx;obtain ⟨oj,hj,rfl⟩:=yD hx;split at h
   ·cases h
   ·rename_i d hd;simp only [te,aah] at h;obtain ⟨⟨⟨⟨⟨hCe,PK⟩,hbit⟩,hpr⟩,om⟩,hT⟩:=h;have hCe:C=[]:=by simpa using hCe
    subst hCe;have PK:cK oj.op=true:=PK;have hd:oj.dst=some d:=hd;have Dp:j∈aaq .any ops listed:=xo hM hj (by simpa using hbit) hpr (vE hP hj);obtain ⟨ih,_⟩:=uI hA hP hF hK T n [] (listed.setIfInBounds j true) (L ||| 2 ^ j) (fun k hk=>by cases hk) (lE.add hA Dp) (hM.add j);unfold zO at hs;rw [aV,aaG,hj] at hs;simp only at hs;obtain ⟨fQ,hs⟩:=hs;unfold aaw at fQ;split at fQ
    ·rename_i _ d' hg ND;rw [hd] at ND;cases ND;rw [aah] at fQ;have aav:E.E0 f d=false:=by simpa using fQ.1
     have U8:dh E f ops.toList oj (jz E f ops fN [] K n (listed.setIfInBounds j true)) s:=dm hs fun s' h'=>ih hT s' h'
     unfold dh at U8;rw [hg] at U8;obtain ⟨s1,q1,q2⟩:=(NX PK).1 U8;refine Si hA hK hj hg hd PK aav n listed s s1 lE (fun i oi hi df Sg xe=>?_) Dp q1 q2;have rK:=Dm om i _ (pq hi);rw [abt] at rK;simp only [abv] at rK;have aaz:i < ops.size:=(aaF.1 hi).1;rcases rK with ((h1|h1)|h1)|h1
     ·exact absurd (aas h1) df
     ·rw [hM.Jq aaz,h1] at Sg; cases Sg
     ·exact absurd (iB.1 h1) xe
     ·rw [aah] at h1;exact ⟨F2 h1.1,fun e he off=>Dn fQ.2 e (iB.1 (aar.1 h1.2 e he)) off⟩
    ·cases fQ
  ·cases h
 |.take j C' T,0,C,listed,L,hC,lE,hM=>⟨fun h=>by simp [qb] at h,fun m l e=>by cases e⟩
 |.take j C' T,n+1,C,listed,L,hC,lE,hM=>by
  refine ⟨fun h s hs=>?_,fun m l _ h=>by simp [qb] at h⟩;unfold qb at h;split at h
  ·rename_i x c hx hc;obtain ⟨oj,hj,rfl⟩:=yD hx;split at h
   ·cases h
   ·rename_i d hd;simp only [te,aah] at h;obtain ⟨⟨⟨⟨⟨⟨⟨hN,Jj⟩,hCd⟩,hcf⟩,hbit⟩,hpr⟩,yC⟩,aaA,hT⟩:=h;have hN:zN oj.op=true:=hN;have hd:oj.dst=some d:=hd;have Dp:j∈aaq .any ops listed:=xo hM hj (by simpa using hbit) hpr (vE hP hj);have UJ:∀ {d:Nat} {l:List Nat},(!nZ d l)=true→d∉l:=fun h hm=>by rw [iB.2 hm] at h; cases h
    have aaB:d∉oj.looksAt ops:=UJ Jj;have aiM:∀ k∈C,∀ ok,ops[k]?=some ok→d∉ok.looksAt ops∧ok.dst≠some d:=fun k hk ok fQ=>by
     have:=aar.1 hCd k hk;rw [kv fQ] at this;simp only [aah] at this;refine ⟨UJ this.1,fun e=>?_⟩;have h2:=this.2;simp only [pj,e,xT] at h2;cases h2
    have UO:NC ops (j :: C):=fun k hk ok ho=>by
     rcases abr.1 hk with rfl|hk
     ·rw [hj] at ho; cases ho; exact hN
     ·exact hC k hk ok ho
    have aiN:=lE.add hA Dp;obtain ⟨ih,_⟩:=uI hA hP hF hK T n C' (listed.setIfInBounds j true) (L ||| 2 ^ j) (F4 yC) aiN (hM.add j);unfold zO at hs;rw [aV,aaG,hj] at hs;simp only at hs;have U8:dh E f ops.toList oj (jz E f ops fN (j :: C) K n (listed.setIfInBounds j true)) s:=dm hs fun s' h'=>s8 n _ _ (Bj (hM.add j) aaA) (ih hT s' h')
    obtain ⟨x,zM,hk⟩:=De hN (kY UO hK _ _) U8;rw [hd] at hk;refine Mi hA hC hK hj hN hd aaB aiM n listed s x lE (fun i oi hi df Sg xe=>?_) Dp zM hk;have om:=Dl hF j _ c (pq hj) (by rw [← aV]; exact hc) hN;have rK:=Dk om i _ (pq hi);rw [abt,abt] at rK;simp only [abv] at rK;have aaz:i < ops.size:=(aaF.1 hi).1;rcases rK with ((h1|h1)|h1)|h1
    ·exact absurd (aas h1) df
    ·obtain ⟨e,q1,q2,q3⟩:=mo.1 (iB.1 h1);exact absurd q3 (xe e (by simpa using q1) q2)
    ·have:=aar.1 hcf i (iB.1 h1);rw [hM.Jq aaz,this] at Sg;cases Sg
    ·exact F2 h1
  ·cases h
 |.br i re C' T more,0,C,listed,L,hC,lE,hM=>⟨fun h=>by simp [qb] at h,fun m l e=>by cases e⟩
 |.br i re C' T more,n+1,C,listed,L,hC,lE,hM=>by
  have main:∀ left l,(match left with | none=>td L 0 (po ops) | some l=>l)=l→qb (po ops) (2 ^ ops.size - 1) fN cf (.br i re C' T more) (n+1) C L left=true→∀ s,zO E f ops.toList (.br i re C' T more) K s→i∈l∧∀ k∈l,k∈aaq .any ops listed→∀ ok,ops[k]?=some ok →
    dh E f ops.toList ok (fun s'=>PP E f ops fN C k s'∧jz E f ops fN C K n (listed.setIfInBounds k true) s') s:=by
   intro left l hl h s hs;unfold qb at h;split at h
   ·cases h
   ·rename_i y hy;obtain ⟨oi,yB,rfl⟩:=yD hy;have h:(Yz (po ops) fN C re i (pj ops oi)&&N2 (po ops) C'&&nZ i l&&(B9 (po ops) fN (L ||| 2 ^ i) C C'&&qb (po ops) (2 ^ ops.size - 1) fN cf T n C' (L ||| 2 ^ i) none) &&
     qb (po ops) (2 ^ ops.size - 1) fN cf more (n+1) C L (some (l.filter fun k=>!aaN k i)))=true:=by
     cases left with
     |none=>simp only at hl; subst hl; simp only [Dj,te] at h; exact h
     |some l'=>simp only at hl; subst hl; simp only [te] at h; exact h
    simp only [aah] at h;obtain ⟨⟨⟨⟨Z7,yC⟩,gY⟩,aaA,hT⟩,hmore⟩:=h;unfold zO at hs;refine ⟨iB.1 gY,fun k hk hkr ok fQ=>?_⟩;by_cases e:k=i
    ·subst e;rw [yB] at fQ;cases fQ;obtain ⟨ih,_⟩:=uI hA hP hF hK T n C' (listed.setIfInBounds k true) (L ||| 2 ^ k) (F4 yC) (lE.add hA hkr) (hM.add k);have h1:=hs.1;rw [aV,aaG,yB] at h1;refine dm h1 fun s' h'=>⟨fun c hc oc Yy q1 q2 q3 q4=>?_,s8 n _ _ (Bj (hM.add k) aaA) (ih hT s' h'.2)⟩
     rw [yB] at q2;cases q2;have KV:=aar.1 Z7 c hc;rw [kv q1] at KV;have q3':vC (pj ops oc) (pj ops oi)=true:=q3;simp only [q3',Bool.not_true,Bool.false_or,abv] at KV;rcases KV with KV|KV
     ·have hm:c∈re:=iB.1 KV;have:∀ (re:List Nat),c∈re→F1 E f ops.toList re s'→Mb E f ops.toList oc s':=by
       intro re
       induction re with
       |nil=>intro hm; simp at hm
       |cons a re ihr=>
        intro hm ha;rcases abr.1 hm with rfl|hm
        ·have:=ha.1;rw [aV,aaG,q1] at this;exact this
        ·exact ihr hm ha.2
      exact this re hm h'.1
     ·exact absurd (iB.1 KV) q4
    ·obtain ⟨_,ih⟩:=uI hA hP hF hK more (n+1) C listed L hC lE hM;refine ih n _ rfl hmore s hs.2 k ?_ hkr ok fQ;rw [List.mem_filter];exact ⟨hk,by rw [sO e]; rfl⟩
  refine ⟨fun h s hs=>?_,fun m l e h s hs k hk hkr ok fQ=>?_⟩
  ·obtain ⟨m1,m2⟩:=main none _ rfl h s hs;have back:∀ k,k∈td L 0 (po ops)→k∈aaq .any ops listed:=fun k hk=>by
    obtain ⟨j,x,q1,q2,q3,q4⟩:=uG.1 hk;rw [abt] at q1;subst q1;rw [← aV] at q2;obtain ⟨o,ho,rfl⟩:=yD q2;exact xo hM ho q3 q4 (vE hP ho)
   have aeY:∀ k,k∈aaq .any ops listed→k∈td L 0 (po ops):=fun k hk=>by
    obtain ⟨h1,o,ho,yC⟩:=mem_ready.1 hk;have cE:k < ops.size:=(aaF.1 ho).1;refine uG.2 ⟨k,pj ops o,by omega,pq ho,by rw [← hM.Jq cE]; exact h1,aar.2 fun e he=>?_⟩;obtain ⟨ed,q1,q2,rfl⟩:=mo.1 he;have h2:=yC ed (by simpa using q1) q2;rw [hM.Jq (vE hP ho ed (by simpa using q1) q2)] at h2;exact h2
   refine ⟨fun h0=>?_,fun k hk ok fQ=>m2 k (aeY k hk) hk ok fQ⟩;have:=back i m1;rw [h0] at this;simp at this
  ·cases e;exact (main (some l) l rfl h s hs).2 k hk hkr ok fQ
theorem Dq {R:aj} {w:World} {β:Nat→Nat} {F:Fence} {Qc:Exit→Act→World→Prop} {C:List Nat} (hQ:∀ a' w',uC E R w β s K a' w'→Qc .normal a' w') :
  ∀ (n:Nat) (listed:Array Bool) (R1:aj) (w1:World) (β1:Nat→Nat) (s1:St) (a1:Act),bi E R1 w1 β1 s1 a1→Step R w β s.boxes R1 w1 β1 s1.boxes→s1.ro=s.ro→cT R1 s1.ro F →
   jz E f ops fN C K n listed s1→wpAnyIn F 0 E.P .any ops Qc n listed a1 w1
 |0,listed,R1,w1,β1,s1,a1,hr,lI,bu,_,ha=>⟨ha.1,hQ _ _ ⟨s1,R1,β1,ha.2,hr,lI,bu⟩⟩
 |n+1,listed,R1,w1,β1,s1,a1,hr,lI,bu,hf,ha=>by
  refine ⟨fun h0=>hQ _ _ ⟨s1,R1,β1,ha.1 h0,hr,lI,bu⟩,fun i hi=>?_⟩;obtain ⟨_,o,ho,_⟩:=mem_ready.1 hi;unfold wpOpIn;simp only [ho];refine yu hr hf (ha.2 i hi o ho) _ ?_;rintro a' w' ⟨s',R',β',q1,q2,q3,q4⟩;exact Dq hQ n _ R' w' β' s' a' q2 (lI.trans q3) (q4.trans bu) (by rw [q4]; exact hf.mono q3.ext) q1.2
theorem jm {K':St→Prop} (hK:∀ s,K s→K' s):∀ (T:DT) (s:St),zO E f ops.toList T K s→zO E f ops.toList T K' s
 |.done,s,h=>hK s h
 |.stop,_,_=>trivial
 |.take j C T,s,h=>by
  unfold zO at h ⊢;split
  ·rename_i oj hj;rw [hj] at h;exact dm h fun s' h'=>jm hK T s' h'
  ·rename_i hj;rw [hj] at h;exact h
 |.al j W T,s,h=>by
  unfold zO at h ⊢;split
  ·rename_i oj hj;rw [hj] at h;exact ⟨h.1,dm h.2 fun s' h'=>jm hK T s' h'⟩
  ·rename_i hj;rw [hj] at h;exact h
 |.br i re C T more,s,h=>by
  unfold zO at h ⊢;refine ⟨?_,jm hK more s h.2⟩;have h:=h.1;split
  ·rename_i oj hj;rw [hj] at h;exact dm h fun s' h'=>⟨h'.1,jm hK T s' h'.2⟩
  ·rename_i hj;rw [hj] at h;exact h
structure aH where
 fN:List (List Nat)
 cf:List (List Nat)
 T:DT
def Mk (ops:Array Oper) (p:aH):Bool:=N0 (ops.toList.map (pj ops)) fun I=>
 Ho ops.size fun n=>Ho (2 ^ n - 1) fun N=>Di (Sj p.fN) 0 I&&aay n I&&Jn I 0 I p.cf&&qb I N (Sj p.fN) p.cf p.T n [] 0 none
theorem bi.drawn {R:aj} {w:World} {β:Nat→Nat} {a:Act} (h:bi E R w β s a):bi E R { w with drawn:=w.drawn+1 } β s a∧Step R w β s.boxes R { w with drawn:=w.drawn+1 } β s.boxes:=by
 have e:Ext R w R { w with drawn:=w.drawn+1 }:=⟨fun _ _ h=>h,fun _ _ _=>rfl,fun _ ro h=>⟨ro,h,cQ.refl ro⟩,ju.refl w⟩;refine ⟨⟨⟨h.g.len,fun id go ro h1 h2=>(h.g.obj id go ro h1 h2).mono e (fun _ _=>rfl) (fun _ _ _ h=>h),h.g.inj,h.g.wf,fun g cs hg=>(h.g.ft g cs hg).mono e,Nat.le_succ_of_le h.g.lo⟩,?_,h.t.mono e,h.n,h.d⟩,?_⟩
 ·exact h.b.bD e (fun _ _ _=>rfl) (fun _ _ _ _ h=>h) (fun _ _ _ h=>h)
 ·exact ⟨e,rfl,rfl,rfl,Nat.le_refl _,fun _ _ _=>rfl,fun _ _ h=>h,fun _ _ h _ _=>h⟩
theorem jv.draw {id:Nat} {p:aH} {Q:Exit→St→Prop} (fQ:Mk ops p=true) (h:zO E f ops.toList p.T (Q .normal) s):jv E (.region id ops true) Q s:=fun R w β a F hr hf=>by
 simp only [Mk,Jo,te,aah] at fQ;obtain ⟨⟨⟨hA,hP⟩,hF⟩,hT⟩:=fQ;refine wpIn_region_any E.mixed ?_;obtain ⟨q1,q2⟩:=hr.drawn;have hK:Inv (fun s=>∃ u,vz u s∧Q .normal u):=fun s t e ⟨u,h1,h2⟩=>⟨u,h1.trans e,h2⟩
 have h':=jm (K':=fun s=>∃ u,vz u s∧Q .normal u) (fun s h=>⟨s,vz.refl s,h⟩) p.T s h;have lE:s9 (Sj p.fN) (Array.replicate ops.size false):=fun i hi=>by
  rw [abu,Array.getElem?_replicate] at hi;split at hi <;> cases hi
 have aaC:=(uI (E:=E) (f:=f) (Mj hA) hP hF hK p.T ops.size [] (Array.replicate ops.size false) 0 (fun k hk=>by simp at hk) lE ⟨by simp,fun i hi=>by simp [hi]⟩).1 hT s h';refine Dq (R:=R) (w:=w) (β:=β) (s:=s) (f:=f) (K:=fun s=>∃ u,vz u s∧Q .normal u) ?_ _ _ R _ β s a q1 q2 rfl hf aaC;rintro a' w' ⟨s',R',β',⟨u,e,hu⟩,h2,h3,h4⟩;exact ⟨u,R',β',hu,h2.eqv e.symm,h3.eqv rfl e.symm.b,e.ro.trans h4⟩
end
end Go.Am
