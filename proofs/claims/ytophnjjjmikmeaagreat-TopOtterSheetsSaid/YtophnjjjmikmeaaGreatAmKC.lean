/- The abstract machine: what it does is what the model does: arithmetic,structs and slices that are built. -/
import Derived.Test.YtophnjjjmikmeaaGreatAmKB
import Derived.Laws.StructEq
import Derived.ChangeKeysEq
import Derived.Laws.Cover3
import Derived.Laws.Pointers
import Derived.Lib.SliceRun
import Derived.IntWalk
set_option linter.all false
namespace Go.Am
open Go
section ops
variable {E:Env} {R:af} {w:World} {β:Nat→Nat} {s:St} {a:Act} {o:Oper}
theorem size_bytes (l:List UInt8):(⟨⟨l⟩⟩:ByteArray).size=l.length:=rfl
theorem pG (l:List UInt8):(⟨⟨l⟩⟩:ByteArray).toList=l:=by rw [ByteArray.toList_eq]
theorem yU (l r:List UInt8):((⟨⟨l⟩⟩:ByteArray)++⟨⟨r⟩⟩)=⟨⟨l++r⟩⟩:=by
 apply ByteArray.ext
 rw [ByteArray.data_append]
 simp
theorem EX (op:BinOp) (t:TypeId) (x y:Operand) (k k':IntKind) (n m:Int):(eqGuard op t x y (.int k n) (.int k' m)).run E.P w=.ok () w:=by
 unfold eqGuard
 cases op <;> rfl
theorem EY (op:BinOp) (t:TypeId) (x y:Operand) (n m:ByteArray):(eqGuard op t x y (.string n) (.string m)).run E.P w=.ok () w:=by
 unfold eqGuard
 cases op <;> rfl
theorem Cg (h:aL E R w β s a) (op:BinOp) (t u:TypeId) (x y:Operand) (ho:o.op=.binOp op t x y u) {p q v:AV} (hx:ba E s.ab x=.v p) (hy:ba E s.ab y=.v q) (hv:Al op p q=some (true,v)) :
  bn E R w β s a o (s.put o.dst (.v v)):=by
 have rx:=aF h x
 have ry:=aF h y
 rw [hx] at rx
 rw [hy] at ry
 have cF:Rel R w p (a.eval x):=rx
 have mh:Rel R w q (a.eval y):=ry
 have key:∃ c,(do eqGuard op t x y (a.eval x) (a.eval y); binOp op t (a.eval x) (a.eval y):Sem Value).run E.P w=.ok c w∧Rel R w v c:=by
  generalize dP:a.eval x=xv at cF
  generalize Qj:a.eval y=yv at mh
  unfold Al at hv
  split at hv
  ·rename_i k n k' m
   cases cF
   cases mh
   simp only [Sem.run_bind,EX,Result.andThen_ok]
   split at hv
   ·injection hv with hv
    injection hv with h1 h2
    subst h2
    have hm:=of_decide_eq_true h1
    have Jh:¬ m < 0:=by omega
    exact ⟨.int k (k.wrap (n * 2 ^ (min m.toNat k.bits))),by simp [binOp,Op.shift,Jh],.int _ _⟩
   ·injection hv with hv
    injection hv with h1 h2
    subst h2
    have hm:=of_decide_eq_true h1
    have Jh:¬ m < 0:=by omega
    exact ⟨.int k (n.fdiv (2 ^ (min m.toNat k.bits))),by simp [binOp,Op.shift,Jh],.int _ _⟩
   ·rename_i Ji S9
    split at hv
    ·rename_i Cd
     subst Cd
     split at hv
     ·cases hv; exact ⟨.int k (k.wrap (n+m)),by simp [binOp,Op.intArith],.int _ _⟩
     ·cases hv; exact ⟨.int k (k.wrap (n - m)),by simp [binOp,Op.intArith],.int _ _⟩
     ·cases hv; exact ⟨.int k (k.wrap (n * m)),by simp [binOp,Op.intArith],.int _ _⟩
     ·injection hv with hv
      injection hv with h1 h2
      subst h2
      have hm:¬ m=0:=by simpa using h1
      exact ⟨.int k (k.wrap (n.tdiv m)),by simp [binOp,Op.intDiv,hm],.int _ _⟩
     ·injection hv with hv
      injection hv with h1 h2
      subst h2
      have hm:¬ m=0:=by simpa using h1
      exact ⟨.int k (n.tmod m),by simp [binOp,Op.intDiv,hm],.int _ _⟩
     ·cases hv; exact ⟨.int k (EH k n m),by simp [binOp,Op.intBits,EH],.int _ _⟩
     ·cases hv; exact ⟨.int k (T5 k n m),by simp [binOp,Op.intBits,T5],.int _ _⟩
     ·cases hv; exact ⟨.int k (EI k n m),by simp [binOp,Op.intBits,EI],.int _ _⟩
     ·cases hv; exact ⟨.bool (n == m),by simp [binOp,Op.intCmp],.bool _⟩
     ·cases hv; exact ⟨.bool (n != m),by simp [binOp,Op.intCmp],.bool _⟩
     ·cases hv; exact ⟨.bool (decide (n < m)),by simp [binOp,Op.intCmp],.bool _⟩
     ·cases hv; exact ⟨.bool (decide (n≤m)),by simp [binOp,Op.intCmp],.bool _⟩
     ·cases hv; exact ⟨.bool (decide (n > m)),by simp [binOp,Op.intCmp],.bool _⟩
     ·cases hv; exact ⟨.bool (decide (n≥m)),by simp [binOp,Op.intCmp],.bool _⟩
     ·cases hv
    ·cases hv
  ·rename_i l r
   cases cF
   cases mh
   simp only [Sem.run_bind,EY,Result.andThen_ok]
   split at hv
   ·injection hv with hv
    injection hv with h1 h2
    subst h2
    have hm:=of_decide_eq_true h1
    refine ⟨.string ⟨⟨l++r⟩⟩,?_,.str _⟩
    have MU:¬ ((l.length+r.length:Nat):Int) > IntKind.i64.max:=by
     have:IntKind.i64.max=9223372036854775807:=by decide
     omega
    simp only [binOp,Op.stringOp,size_bytes,if_neg MU,yU,Sem.run_pure]
   ·cases hv; exact ⟨.bool (l == r),by simp [binOp,Op.stringOp],.bool _⟩
   ·cases hv; exact ⟨.bool (!(l == r)),by simp [binOp,Op.stringOp],.bool _⟩
   ·cases hv; exact ⟨.bool (Op.bytesLess l r),by simp [binOp,Op.stringOp],.bool _⟩
   ·cases hv; exact ⟨.bool (Op.bytesLess l r || l == r),by simp [binOp,Op.stringOp],.bool _⟩
   ·cases hv; exact ⟨.bool (!(Op.bytesLess l r || l == r)),by simp [binOp,Op.stringOp],.bool _⟩
   ·cases hv; exact ⟨.bool (!(Op.bytesLess l r)),by simp [binOp,Op.stringOp],.bool _⟩
   ·cases hv
  ·cases hv
 obtain ⟨c,k1,k2⟩:=key
 refine an h (c:=c) ?_ k2
 simp only [Sem.run_bind] at k1
 simp only [execOp,ho,Sem.run_bind,k1,Result.andThen_ok,Sem.run_pure]
theorem jd {t:TypeId} {i:TypeInfo} {u:TypeDesc} (h1:E.P.info? t=some i) (h2:E.P.underlying t=some u) {off:Nat} {cs:List AV} {vs:List Value} {v:AV} (hr:aA R w cs vs) (h3:∀ x∈vs,x.oneCell'=true)
  (h:DL (iy u) off i.size cs=some v):∃ c,(part t ⟨vs⟩ off).run E.P w=.ok c w∧Rel R w v c:=by
 unfold DL at h
 cases ha:iy u with
 | true=>
  rw [ha] at h
  simp only [if_true] at h
  split at h
  ·rename_i l hl
   exact kF h1 h2 hr h3 (fun _=>⟨hl,h⟩) (fun e=>by rw [ha] at e; cases e)
  ·cases h
 | false=>
  rw [ha] at h
  simp only [Bool.false_eq_true,if_false] at h
  split at h
  ·rename_i l hl
   exact kF h1 h2 hr h3 (fun e=>by rw [ha] at e; cases e) (fun _=>⟨hl,h⟩)
  ·cases h
theorem As {ek:TypeId→EK} {d:Nat} (ih:∀ (t:TypeId) (a b:AV) (r:Bool) (x y:Value),jT (ek t) a b=some r→Rel R w a x→Rel R w b y→(Op.equalIn d t x y).run E.P w=.ok r w) {xs ys:List AV} {vs us:List Value}
  (hx:aA R w xs vs) (rb:∀ x∈vs,x.oneCell'=true) (hy:aA R w ys us) (JJ:∀ x∈us,x.oneCell'=true) :
  ∀ (fs:List Field) (l:MJ) (r:Bool),BY E.P ek fs=some l→qX l xs ys=some r→(Op.eqFields d ⟨vs⟩ ⟨us⟩ fs).run E.P w=.ok r w
 | [],l,r,hl,hr=>by
  simp [BY] at hl
  subst hl
  simp [qX] at hr
  subst hr
  rfl
 | f :: fs,l,r,hl,hr=>by
  unfold BY at hl
  split at hl
  ·cases hl
  ·rename_i hn
   split at hl
   ·rename_i i u l' h1 h2 h3
    cases hl
    unfold qX at hr
    split at hr
    ·rename_i a b ha hb
     split at hr
     ·rename_i p q hp hq
      cases hr
      obtain ⟨c,k1,k2⟩:=jd h1 h2 hx rb ha
      obtain ⟨c',k3,k4⟩:=jd h1 h2 hy JJ hb
      have bW : f.name ≠ "_" := by simpa using hn
      have he:=ih f.type a b p c c' hp k2 k4
      have uk:=As ih hx rb hy JJ fs l' q h3 hq
      simp only [Op.eqFields,bW,ne_eq,not_false_eq_true,if_true,Sem.run_bind,k1,k3,he,Result.andThen_ok]
      cases p with
      | true=>simp [uk]
      | false=>simp
     ·cases hr
    ·cases hr
   ·cases hl
theorem xH {ek:EK} {d:Nat} {e:TypeId} {i:TypeInfo} {u:TypeDesc} (h1:E.P.info? e=some i) (h2:E.P.underlying e=some u) (ih:∀ (a b:AV) (r:Bool) (x y:Value),jT ek a b=some r→Rel R w a x→Rel R w b y→(Op.equalIn d e x y).run E.P w=.ok r w) {xs ys:List AV} {vs us:List Value}
  (hx:aA R w xs vs) (rb:∀ x∈vs,x.oneCell'=true) (hy:aA R w ys us) (JJ:∀ x∈us,x.oneCell'=true) :
  ∀ (m k:Nat) (r:Bool),qX (tV i.size (iy u) ek m k) xs ys=some r→(Op.eqItems d e i.size ⟨vs⟩ ⟨us⟩ (List.range' k m)).run E.P w=.ok r w
 | 0,k,r,hr=>by
  simp [tV,qX] at hr
  subst hr
  rfl
 | m+1,k,r,hr=>by
  unfold tV qX at hr
  split at hr
  ·rename_i a b ha hb
   split at hr
   ·rename_i p q hp hq
    cases hr
    obtain ⟨c,k1,k2⟩:=jd h1 h2 hx rb ha
    obtain ⟨c',k3,k4⟩:=jd h1 h2 hy JJ hb
    have he:=ih a b p c c' hp k2 k4
    have uk:=xH h1 h2 ih hx rb hy JJ m (k+1) q hq
    simp only [List.range'_succ,Op.eqItems,Sem.run_bind,k1,k3,he,Result.andThen_ok]
    cases p with
    | true=>simpa using uk
    | false=>simp
   ·cases hr
  ·cases hr
theorem yV:∀ (n d:Nat),n≤d→∀ (t:TypeId) (a b:AV) (r:Bool) (x y:Value),jT (nQ E.P n t) a b=some r→Rel R w a x→Rel R w b y→(Op.equalIn d t x y).run E.P w=.ok r w
 | 0,_,_,t,a,b,r,x,y,h,_,_=>by simp [nQ,jT] at h
 | n+1,0,hd,_,_,_,_,_,_,_,_,_=>by omega
 | n+1,d+1,hd,t,a,b,r,x,y,h,hx,hy=>by
  unfold nQ at h
  split at h
  ·rename_i hu
   unfold jT at h
   split at h
   all_goals (try contradiction)
   cases hx; cases hy; cases h
   exact run_equalIn_bool' w d t _ _ hu
  ·rename_i k hu
   unfold jT at h
   split at h
   all_goals (try contradiction)
   split at h
   ·rename_i hk
    subst hk
    cases hx; cases hy; cases h
    exact run_equalIn_int w d t _ k _ _ hu
   ·cases h
  ·rename_i hu
   unfold jT at h
   split at h
   all_goals (try contradiction)
   cases hx; cases hy; cases h
   rw [run_equalIn_string w d t _ _ hu,pG,pG]
  ·rename_i fs hu
   split at h
   ·simp [jT] at h
   ·rename_i hs
    split at h
    ·rename_i l hl
     unfold jT at h
     split at h
     all_goals (try contradiction)
     rename_i yO xs ys hk
     cases hk
     cases hx with
     | agg hx rb=>
     cases hy with
     | agg hy JJ=>
     have hf:E.P.fieldsOf t=fs:=by simp [Program.fieldsOf,hu]
     rw [run_equalIn_struct w d t _ _ (by rw [hf]; exact hu) (by simpa using hs),hf]
     exact As (fun t a b r x y=>yV n d (by omega) t a b r x y) hx rb hy JJ fs.toList _ r hl h
    ·simp [jT] at h
  ·rename_i m e hu
   split at h
   ·rename_i i ud g1 g2
    unfold jT at h
    split at h
    all_goals (try contradiction)
    rename_i yO xs ys hk
    cases hk
    cases hx with
    | agg hx rb=>
    cases hy with
    | agg hy JJ=>
    have nS:E.P.cellsOf e=i.size:=by simp [Program.cellsOf,g1]
    rw [run_equalIn_array (P:=E.P) w d _ _ hu g1,nS,List.range_eq_range']
    exact xH g1 g2 (fun a b r x y=>yV n d (by omega) e a b r x y) hx rb hy JJ m 0 r h
   ·simp [jT] at h
  ·simp [jT] at h
theorem je {t:TypeId} {i:TI} (hi:E.ti t=some i) {p q:AV} {r:Bool} {x y:Value} (h:jT i.ek p q=some r) (hx:Rel R w p x) (hy:Rel R w q y) :
  (Op.equalIn 10000 t x y).run E.P w=.ok r w∧((∃ b c,x=.bool b∧y=.bool c)∨(∃ k n k' m,x=.int k n∧y=.int k' m)∨(∃ n m,x=.string n∧y=.string m)∨(∃ n m,x=.agg n∧y=.agg m∧E.P.eqGuardType E.P.depth t=false)):=by
 have xI:i.ek=rZ E.P t:=by
  have:=E.EG t i hi
  unfold EF at this
  split at this
  ·split at this
   ·cases this; rfl
   ·cases this
  ·cases this
 rw [xI] at h
 have hg:jT (nQ E.P 6 t) p q=some r∧((∃ l,nQ E.P 6 t=.st l)→E.P.eqGuardType E.P.depth t=false):=by
  unfold rZ at h
  split at h
  ·rename_i l hl
   split at h
   ·simp [jT] at h
   ·rename_i Jj
    exact ⟨by rw [hl]; exact h,fun _=>by simpa using Jj⟩
  ·rename_i k hk
   exact ⟨h,fun ⟨l,hl⟩=>absurd hl (hk l)⟩
 refine ⟨yV 6 10000 (by omega) t p q r x y hg.1 hx hy,?_⟩
 have h2:=hg.1
 have h3:=hg.2
 generalize nQ E.P 6 t=k at h2 h3
 unfold jT at h2
 split at h2
 ·cases hx; cases hy; exact .inl ⟨_,_,rfl,rfl⟩
 ·cases hx; cases hy; exact .inr (.inl ⟨_,_,_,_,rfl,rfl⟩)
 ·cases hx; cases hy; exact .inr (.inr (.inl ⟨_,_,rfl,rfl⟩))
 ·cases hx; cases hy; exact .inr (.inr (.inr ⟨_,_,rfl,rfl,h3 ⟨_,rfl⟩⟩))
 ·cases h2
theorem Gy (h:aL E R w β s a) (op:BinOp) (t u:TypeId) (x y:Operand) (ho:o.op=.binOp op t x y u) {p q:AV} {r:Bool} (hx:ba E s.ab x=.v p) (hy:ba E s.ab y=.v q) (hb:Al op p q=none) (hv:Ub E op t p q=some r) :
  bn E R w β s a o (s.put o.dst (.v (.bool r))):=by
 have rx:=aF h x
 have ry:=aF h y
 rw [hx] at rx
 rw [hy] at ry
 have cF:Rel R w p (a.eval x):=rx
 have mh:Rel R w q (a.eval y):=ry
 have key:(do eqGuard op t x y (a.eval x) (a.eval y); binOp op t (a.eval x) (a.eval y):Sem Value).run E.P w=.ok (.bool r) w:=by
  generalize dP:a.eval x=xv at cF
  generalize Qj:a.eval y=yv at mh
  unfold Ub at hv
  split at hv
  ·rename_i i hi
   obtain ⟨k1,k2⟩:=je hi hv cF mh
   rcases k2 with ⟨b,c,rfl,rfl⟩ | ⟨k,n,k',m,rfl,rfl⟩ | ⟨n,m,rfl,rfl⟩ | ⟨n,m,rfl,rfl,hg⟩
   ·have Ch:(eqGuard .eql t x y (.bool b) (.bool c)).run E.P w=.ok () w:=rfl
    simp [Ch,binOp,Op.equal,Op.maxDepth,k1]
   ·cases cF; cases mh; simp [Al] at hb
    cases hk:i.ek <;> simp [hk,jT] at hv
    exact absurd hv.1 hb
   ·cases cF; cases mh; simp [Al] at hb
   ·simp only [Sem.run_bind,run_eqGuard_agg w _ t x y n m hg,Result.andThen_ok,run_eql_struct,k1]
  ·rename_i i hi
   split at hv
   ·rename_i r' gH
    cases hv
    obtain ⟨k1,k2⟩:=je hi gH cF mh
    rcases k2 with ⟨b,c,rfl,rfl⟩ | ⟨k,n,k',m,rfl,rfl⟩ | ⟨n,m,rfl,rfl⟩ | ⟨n,m,rfl,rfl,hg⟩
    ·have Ch:(eqGuard .neq t x y (.bool b) (.bool c)).run E.P w=.ok () w:=rfl
     simp [Ch,binOp,Op.equal,Op.maxDepth,k1]
    ·cases cF; cases mh; simp [Al] at hb
     cases hk:i.ek <;> simp [hk,jT] at gH
     exact absurd gH.1 hb
    ·cases cF; cases mh; simp [Al] at hb
    ·simp only [Sem.run_bind,run_eqGuard_agg w _ t x y n m hg,Result.andThen_ok,run_neq_struct,k1]
   ·cases hv
  ·cases hv
 refine an h (c:=.bool r) ?_ (.bool r)
 simp only [Sem.run_bind] at key
 simp only [execOp,ho,Sem.run_bind,key,Result.andThen_ok,Sem.run_pure]
theorem Au {p:AV} {r:Bool} {x:Value} (hv:JD p=some r) (hx:Rel R w p x):(S5 p=true∧∃ a n c,x=.slice a n c∧a.isNone=r)∨(S5 p=false∧∃ a,x=.pointer a∧a.isNone=r):=by
 unfold JD at hv
 split at hv
 ·cases hv
  cases hx with
  | gF=>exact .inl ⟨rfl,_,_,_,rfl,rfl⟩
  | list _ _ _ hk=>exact hk.elim
 ·cases hv
  cases hx with
  | list _ _ _ _=>exact .inl ⟨rfl,_,_,_,rfl,rfl⟩
 ·cases hv
  cases hx with
  | list _ _ _ _=>exact .inl ⟨rfl,_,_,_,rfl,rfl⟩
 ·cases hv
  cases hx with
  | gC _ _=>exact .inl ⟨rfl,_,_,_,rfl,rfl⟩
 ·cases hv
  cases hx with
  | cL _ _ _=>exact .inl ⟨rfl,_,_,_,rfl,rfl⟩
 ·cases hv
  cases hx
  exact .inr ⟨rfl,_,rfl,rfl⟩
 ·cases hv
  cases hx with
  | ptr _=>exact .inr ⟨rfl,_,rfl,rfl⟩
 ·cases hv
  cases hx with
  | ep _=>exact .inr ⟨rfl,_,rfl,rfl⟩
 ·cases hv
theorem ul {p:AV} {b:Bool} {x:Value} (hv:B4 p=some b) (hx:Rel R w p x):(b=true∧x=.slice none 0 0)∨(b=false∧x=.pointer none):=by
 unfold B4 at hv
 split at hv
 ·cases hv
  cases hx with
  | gF=>exact .inl ⟨rfl,rfl⟩
  | list _ _ _ hk=>exact hk.elim
 ·cases hv
  cases hx
  exact .inr ⟨rfl,rfl⟩
 ·cases hv
theorem JK {P:Program} {t:TypeId} (h:MN P t=true):∃ e,P.underlying t=some (.slice e):=by
 unfold MN at h
 split at h
 ·rename_i e he; exact ⟨e,he⟩
 ·cases h
theorem JL {P:Program} {t:TypeId} (h:MO P t=true):P.underlying t=some (.pointer (P.pointee t)):=by
 unfold MO at h
 split at h
 ·rename_i e he
  unfold Program.pointee
  rw [he]
 ·cases h
theorem EZ (h:aL E R w β s a) (op:BinOp) (t u:TypeId) (x y:Operand) (ho:o.op=.binOp op t x y u) {p q:AV} {r:Bool} (hx:ba E s.ab x=.v p) (hy:ba E s.ab y=.v q) (hv:MP E op t p q=some r) :
  bn E R w β s a o (s.put o.dst (.v (.bool r))):=by
 have rx:=aF h x
 rw [hx] at rx
 have ry:=aF h y
 rw [hy] at ry
 have cF:Rel R w p (a.eval x):=rx
 have mh:Rel R w q (a.eval y):=ry
 have key:(do eqGuard op t x y (a.eval x) (a.eval y); binOp op t (a.eval x) (a.eval y):Sem Value).run E.P w=.ok (.bool r) w:=by
  generalize dP:a.eval x=xv at cF
  generalize Qj:a.eval y=yv at mh
  have two:∀ {r0:Bool},JD p=some r0→sa E.P t p q=true→(∃ a n c e,xv=.slice a n c∧yv=.slice none 0 0∧a.isNone=r0∧E.P.underlying t=some (.slice e))∨(∃ a,xv=.pointer a∧yv=.pointer none∧a.isNone=r0∧E.P.underlying t=some (.pointer (E.P.pointee t))):=by
   intro r0 h1 h2
   unfold sa at h2
   split at h2
   ·rename_i hb
    rw [Bool.and_eq_true] at h2
    obtain ⟨e,he⟩:=JK h2.2
    rcases ul hb mh with ⟨_,rfl⟩ | ⟨hf,_⟩
    ·rcases Au h1 cF with ⟨_,a,n,c,rfl,hn⟩ | ⟨hs,_⟩
     ·exact .inl ⟨a,n,c,e,rfl,rfl,hn,he⟩
     ·rw [h2.1] at hs; cases hs
    ·cases hf
   ·rename_i hb
    rw [Bool.and_eq_true] at h2
    have hp:=JL h2.2
    rcases ul hb mh with ⟨hf,_⟩ | ⟨_,rfl⟩
    ·cases hf
    ·rcases Au h1 cF with ⟨hs,_⟩ | ⟨_,a,rfl,hn⟩
     ·rw [hs] at h2; cases h2.1
     ·exact .inr ⟨a,rfl,rfl,hn,hp⟩
   ·cases h2
  unfold MP at hv
  split at hv
  ·rename_i r0 h1
   obtain ⟨h2,h3⟩:sa E.P t p q=true∧_:=by
    cases h2:sa E.P t p q with
    | false=>rw [h2] at hv; cases hv
    | true=>rw [h2] at hv; exact ⟨rfl,Option.some.inj hv⟩
   subst h3
   rcases two h1 h2 with ⟨a,n,c,e,rfl,rfl,hn,he⟩ | ⟨a,rfl,rfl,hn,hp⟩
   ·have hg:(eqGuard .eql t x y (.slice a n c) (.slice none 0 0)).run E.P w=.ok () w:=rfl
    simp only [Sem.run_bind,hg,Result.andThen_ok,Lib.run_eql_slice_nil w t e a n c 0 0 he,hn]
   ·have hg:(eqGuard .eql t x y (.pointer a) (.pointer none)).run E.P w=.ok () w:=rfl
    simp only [Sem.run_bind,hg,Result.andThen_ok,run_eql_pointer_nil w t a hp,hn]
  ·rename_i r0 h1
   obtain ⟨h2,h3⟩:sa E.P t p q=true∧_:=by
    cases h2:sa E.P t p q with
    | false=>rw [h2] at hv; cases hv
    | true=>rw [h2] at hv; exact ⟨rfl,Option.some.inj hv⟩
   subst h3
   rcases two h1 h2 with ⟨a,n,c,e,rfl,rfl,hn,he⟩ | ⟨a,rfl,rfl,hn,hp⟩
   ·have hg:(eqGuard .neq t x y (.slice a n c) (.slice none 0 0)).run E.P w=.ok () w:=rfl
    simp only [Sem.run_bind,hg,Result.andThen_ok,run_neq_slice_nil w t e a n c he,hn]
   ·have hg:(eqGuard .neq t x y (.pointer a) (.pointer none)).run E.P w=.ok () w:=rfl
    simp only [Sem.run_bind,hg,Result.andThen_ok,run_neq_pointer_nil w t a hp,hn]
  ·cases hv
 refine an h (c:=.bool r) ?_ (.bool r)
 simp only [Sem.run_bind] at key
 simp only [execOp,ho,Sem.run_bind,key,Result.andThen_ok,Sem.run_pure]
theorem Gz (h:aL E R w β s a) (t:TypeId) (x:Operand) (ho:o.op=.unOp .not t x) {b:Bool} (hx:ba E s.ab x=.v (.bool b)):bn E R w β s a o (s.put o.dst (.v (.bool (!b)))):=by
 have rx:=aF h x
 rw [hx] at rx
 have cF:Rel R w (.bool b) (a.eval x):=rx
 generalize dP:a.eval x=xv at cF
 cases cF
 refine an h (c:=.bool (!b)) ?_ (Rel.bool _)
 simp [execOp,ho,Op.unary,dP]
theorem GA (h:aL E R w β s a) (t:TypeId) (x:Operand) (ho:o.op=.unOp .neg t x) {k:IntKind} {n:Int} (hx:ba E s.ab x=.v (.int k n)):bn E R w β s a o (s.put o.dst (.v (.int k (k.wrap (0 - n))))):=by
 have rx:=aF h x
 rw [hx] at rx
 have cF:Rel R w (.int k n) (a.eval x):=rx
 generalize dP:a.eval x=xv at cF
 cases cF
 refine an h (c:=.int k (k.wrap (0 - n))) ?_ (Rel.int _ _)
 simp [execOp,ho,Op.unary,Op.intArith,dP]
theorem xJ:∀ (us:List Value) (off j0:Nat) (cells:Array Value),off+j0+us.length≤cells.size →
  ((us.zipIdx j0).foldl (fun (cs:Array Value) (p:Value × Nat)=>cs.setIfInBounds (off+p.2) p.1) cells).toList=cells.toList.take (off+j0)++us++cells.toList.drop (off+j0+us.length)
 | [],off,j0,cells,_=>by simp
 | u :: us,off,j0,cells,h=>by
  have bM:off+j0 < cells.size:=by simp at h; omega
  have ih:=xJ us off (j0+1) (cells.setIfInBounds (off+j0) u) (by simp at h ⊢; omega)
  simp only [List.zipIdx_cons,List.foldl_cons]
  rw [ih]
  have e:=list_seg_step cells.toList (off+j0) u us (by simp at h ⊢; omega)
  simpa [Array.toList_setIfInBounds,Nat.add_assoc] using e
theorem ms (place:Nat→Option (Nat × Nat)):∀ {ps:List (Nat × AV)} {qs:List (Nat × Value)} {cells um:List AV} {vs:List Value},
  aA R w (ps.map (·.2)) (qs.map (·.2))→ps.map (·.1)=qs.map (·.1)→aA R w cells vs→(∀ x∈vs,x.oneCell'=true)→r8 place cells ps=some um →
  ∃ us,Instr.fill place ⟨vs⟩ qs=some ⟨us⟩∧aA R w um us∧∀ x∈us,x.oneCell'=true
 | [],qs,cells,um,vs,h1,h2,h3,h4,h5=>by
  have:qs=[]:=by simpa using h2.symm
  subst this
  simp [r8] at h5
  subst h5
  exact ⟨vs,rfl,h3,h4⟩
 | (i,v) :: ps,[],cells,um,vs,h1,h2,h3,h4,h5=>by simp at h2
 | (i,v) :: ps,(j,c) :: qs,cells,um,vs,h1,h2,h3,h4,h5=>by
  simp only [List.map_cons,List.cons.injEq] at h2
  obtain ⟨rfl,h2⟩:=h2
  cases h1 with
  | cons hr h1=>
  unfold r8 at h5
  split at h5
  ·cases h5
  ·rename_i off sz hp
   split at h5
   ·rename_i dD
    simp only [Bool.and_eq_true] at dD
    obtain ⟨⟨EU,hlen⟩,hle⟩:=dD
    have hlen:=Nat.eq_of_beq_eq_true hlen
    have hle:=Nat.le_of_ble_eq_true hle
    obtain ⟨c1,c2⟩:=Rel.cells hr EU
    have Ae:c.cells.toList.length=sz:=by rw [← c1.length]; exact hlen
    have hb:off+v.cells.length≤cells.length:=by omega
    obtain ⟨us,u1,u2,u3⟩:=ms place h1 h2 (h3.bu c1 hb) (gG h4 c2) h5
    refine ⟨us,?_,u2,u3⟩
    have dl:c.cells.size=sz:=by simpa using Ae
    have BS:vs.length=cells.length:=h3.length.symm
    have QP:c.cells.zipIdx.foldl (fun (cs:Array Value) (x:Value × Nat)=>cs.setIfInBounds (off+x.2) x.1) ⟨vs⟩=⟨vs.take off++c.cells.toList++vs.drop (off+c.cells.toList.length)⟩:=by
     apply Array.ext'
     rw [← Array.foldl_toList,Array.toList_zipIdx]
     have:=xJ c.cells.toList off 0 ⟨vs⟩ (by simp only [List.size_toArray]; omega)
     simpa using this
    have bF:(c.cells.size≠sz || decide (off+c.cells.size > (⟨vs⟩:Array Value).size))=false:=by
     have Ji:decide (c.cells.size≠sz)=false:=by simp [dl]
     have S9:decide (off+c.cells.size > (⟨vs⟩:Array Value).size)=false:=by
      rw [decide_eq_false_iff_not,dl]
      show ¬ off+sz > vs.length
      omega
     rw [Ji,S9]
     rfl
    unfold Instr.fill
    simp only [hp,bF,Bool.false_eq_true,if_false]
    rw [← u1]
    exact congrArg (fun z=>Instr.fill place z qs) QP
   ·cases h5
theorem tB (h:aL E R w β s a):∀ {l:List (Nat × Operand)} {ps:List (Nat × AV)},Jf E s.ab l=some ps →
  aA R w (ps.map (·.2)) ((l.map fun x=>(x.1,a.eval x.2)).map (·.2))∧ps.map (·.1)=(l.map fun x=>(x.1,a.eval x.2)).map (·.1)
 | [],ps,hl=>by simp [Jf] at hl; subst hl; exact ⟨.nil,rfl⟩
 | (i,x) :: l,ps,hl=>by
  unfold Jf at hl
  split at hl
  ·rename_i v r h1 h2
   cases hl
   have hx:=aF h x
   rw [h1] at hx
   obtain ⟨g1,g2⟩:=tB h h2
   exact ⟨.cons hx g1,by simpa using g2⟩
  ·cases hl
theorem Ci (h:aL E R w β s a) (t:TypeId) (parts:Array (Nat × Operand)) (ho:o.op=.build t parts) {v:AV} (hv:li E s t parts.toList=some v) :
  bn E R w β s a o (s.put o.dst (.v v)):=by
 unfold li at hv
 split at hv
 ·rename_i i ps hi F9
  split at hv
  ·rename_i z hz
   split at hv
   ·rename_i cs nS
    split at hv
    ·rename_i yS
     cases hv
     simp only [Bool.and_eq_true] at yS
     obtain ⟨yS,kG⟩:=yS
     obtain ⟨eP,u,e1,e2,e3,e4,e5,e6⟩:=bH E hi
     rw [hz] at e6
     obtain ⟨zc,kz,Af⟩:=cw e6
     obtain ⟨p1,p2⟩:=tB h F9
     obtain ⟨c1,c2⟩:=Rel.cells (Af R w) kG
     have MV:(parts.map fun (x:Nat × Operand)=>(x.1,a.eval x.2)).toList=parts.toList.map fun x=>(x.1,a.eval x.2):=by simp
     have key:∃ us,E.P.built t (parts.toList.map fun x=>(x.1,a.eval x.2))=some ⟨us⟩∧aA R w cs us∧∀ x∈us,x.oneCell'=true:=by
      cases u <;> simp only [iy] at e4 <;> first | (rw [yS] at e4; cases e4; done) | skip
      ·rename_i n e
       simp only [nP] at e5
       split at e5
       ·rename_i ie ue f1 f2
        injection e5 with e5
        rw [← e5] at nS
        obtain ⟨us,u1,u2,u3⟩:=ms (R:=R) (w:=w) _ p1 p2 c1 c2 nS
        refine ⟨us,?_,u2,u3⟩
        unfold Program.built
        simp only [e1,e2,kz,f1]
        rw [← u1]
        rfl
       ·cases e5
      ·rename_i fs
       simp only [nP] at e5
       split at e5
       ·rename_i l hl
        injection e5 with e5
        rw [← e5] at nS
        obtain ⟨us,u1,u2,u3⟩:=ms (R:=R) (w:=w) _ p1 p2 c1 c2 nS
        refine ⟨us,?_,u2,u3⟩
        unfold Program.built
        simp only [e1,e2,kz,lT hl]
        rw [← u1]
        have Ta:placeOf (.st l)=fun j=>(l.map fun x=>(x.1,x.2.1)).toArray[j]?:=by
         funext j
         simp only [placeOf,aE,List.getElem?_toArray,List.getElem?_map]
         cases l[j]? <;> rfl
        rw [Ta]
       ·cases e5
     obtain ⟨us,u1,u2,u3⟩:=key
     refine an h (c:=.agg ⟨us⟩) ?_ (Rel.agg u2 u3)
     have aW:=run_build (P:=E.P) w t (parts.map fun (x:Nat × Operand)=>(x.1,a.eval x.2)) ⟨us⟩ (by rw [MV]; exact u1)
     simp only [execOp,ho,Sem.run_bind,aW,Result.andThen_ok,Sem.run_pure]
    ·cases hv
   ·cases hv
  ·cases hv
 ·cases hv
end ops
end Go.Am
namespace Go.Am
open Go
theorem bQ (l r:List AV):ar (l++r)=ar l++ar r:=by
 induction l with
 | nil=>rfl
 | cons e l ih=>simp [ar,ih]
theorem cq {sz:Nat} {es:List AV} (h:eM sz es):(ar es).length=es.length * sz:=by
 induction es with
 | nil=>simp [ar]
 | cons e es ih=>
  have h1:=(h e (by simp)).1
  have:=ih (fun x hx=>h x (by simp [hx]))
  simp only [ar,List.length_append,this,h1,List.length_cons,Nat.add_mul]
  omega
section rel
variable {R:af} {w:World}
theorem jf {b sz:Nat}:∀ {es:List AV} {o:Nat},eM sz es→dN R w b o (ar es)→eY R w b o sz es
 | [],_,_,_=>.nil
 | e :: es,o,h,hc=>by
  obtain ⟨h1,h2,h3⟩:=h e (by simp)
  obtain ⟨vs,k1,k2,k3,k4⟩:=hc.get
  have hd:=hc.drop sz
  have QQ:(ar (e :: es)).drop sz=ar es:=by simp only [ar]; rw [← h1,List.drop_left]
  have GB:(ar (e :: es)).take sz=e.cells:=by simp only [ar]; rw [← h1,List.take_left]
  rw [QQ] at hd
  refine .cons h1 h2 h3 ?_ (jf (fun x hx=>h x (by simp [hx])) hd)
  have kt:=k1.take sz
  rw [GB] at kt
  refine .make kt (fun v hv=>k2 v (List.mem_of_mem_take hv)) (fun j v hv=>k3 j v ?_) (fun j hj=>k4 j ?_)
  ·rw [List.getElem?_take] at hv
   split at hv
   ·exact hv
   ·cases hv
  ·simp only [ar,List.length_append]
   omega
theorem uo {b sz:Nat}:∀ {es:List AV} {o:Nat},eY R w b o sz es→eM sz es∧∃ vs,aA R w (ar es) vs∧(∀ v∈vs,v.oneCell'=true)∧(∀ j v,vs[j]?=some v→w.cell? ⟨b,o+j,none⟩=some v)∧∀ j,j < es.length * sz→R.I b (o+j)
 | [],o,_=>⟨fun e he=>by simp at he,[],.nil,by simp,by simp,by simp⟩
 | e :: es,o,h=>by
  cases h with
  | cons hl ht hk hc t=>
   obtain ⟨g0,vs,g1,g2,g3,g4⟩:=uo t
   obtain ⟨us,f1,f2,f3,f4⟩:=hc.get
   have hlen:us.length=sz:=by rw [← f1.length,hl]
   refine ⟨fun x hx=>?_,us++vs,f1.append g1,fun v hv=>?_,fun j v hv=>?_,fun j hj=>?_⟩
   ·rcases List.mem_cons.1 hx with rfl | hx
    ·exact ⟨hl,ht,hk⟩
    ·exact g0 x hx
   ·rcases List.mem_append.1 hv with hv | hv
    ·exact f2 v hv
    ·exact g2 v hv
   ·by_cases hj:j < sz
    ·rw [List.getElem?_append_left (by omega)] at hv
     exact f3 j v hv
    ·rw [List.getElem?_append_right (by omega),hlen] at hv
     have:=g3 _ v hv
     rwa [show o+sz+(j - sz)=o+j by omega] at this
   ·by_cases BT:j < sz
    ·exact f4 j (by omega)
    ·have:=g4 (j - sz) (by simp only [List.length_cons,Nat.add_mul] at hj; omega)
     rwa [show o+sz+(j - sz)=o+j by omega] at this
theorem rk {b sz:Nat}:∀ (n:Nat) {es:List AV} {o:Nat},eY R w b o sz es→eY R w b (o+n * sz) sz (es.drop n)
 | 0,es,o,h=>by simpa using h
 | n+1,[],o,h=>by simpa using eY.nil
 | n+1,e :: es,o,h=>by
  cases h with
  | cons hl ht hk hc t=>
   have:=rk n t
   rw [show o+sz+n * sz=o+(n+1) * sz by rw [Nat.add_mul]; omega] at this
   simpa using this
theorem rn {b sz:Nat}:∀ (n:Nat) {es:List AV} {o:Nat},eY R w b o sz es→eY R w b o sz (es.take n)
 | 0,es,o,h=>by simpa using eY.nil
 | n+1,[],o,h=>by simpa using eY.nil
 | n+1,e :: es,o,h=>by
  cases h with
  | cons hl ht hk hc t=>simpa using eY.cons hl ht hk hc (rn n t)
end rel
theorem du {sz n:Nat} {z:AV} (h1:z.cells.length=sz) (h2:z.aI=true) (h3:z.closed=true):eM sz (List.replicate n z):=fun e he=>by
 rw [List.mem_replicate] at he
 rw [he.2]
 exact ⟨h1,h2,h3⟩
theorem uq {sz:Nat}:∀ {es:List AV} {i:Nat} {v:AV},eM sz es→i < es.length→v.cells.length=sz→ar (au es i v)=bu (ar es) (i * sz) v.cells
 | [],i,v,_,h,_=>by simp at h
 | e :: es,0,v,h,_,hv=>by
  have h1:=(h e (by simp)).1
  simp only [au,ar,Nat.zero_mul]
  rw [dh _ 0 _ (by simp; omega)]
  simp only [List.take_zero,List.nil_append,Nat.zero_add]
  rw [hv,← h1,List.drop_left]
 | e :: es,i+1,v,h,hi,hv=>by
  have h1:=(h e (by simp)).1
  have Av:eM sz es:=fun x hx=>h x (by simp [hx])
  have ih:=uq (i:=i) (v:=v) Av (by simpa using hi) hv
  have bM:i < es.length:=by simpa using hi
  have hle:i * sz+sz≤es.length * sz:=by rw [← Nat.succ_mul]; exact Nat.mul_le_mul_right _ bM
  have hl:=cq Av
  simp only [au,ar]
  have e1:(i+1) * sz=e.cells.length+i * sz:=by rw [h1,Nat.succ_mul]; omega
  have e2:List.take (e.cells.length+i * sz) e.cells=e.cells:=List.take_of_length_le (by omega)
  rw [ih,dh _ _ _ (by omega),e1,dh _ _ _ (by simp only [List.length_append]; omega)]
  rw [List.take_append,e2,Nat.add_assoc,List.drop_append,List.drop_of_length_le (by omega:e.cells.length≤e.cells.length+(i * sz+v.cells.length))]
  simp [Nat.add_sub_cancel_left]
theorem xK {sz:Nat} {es:List AV} {i:Nat} {v:AV} (h:eM sz es) (h1:v.cells.length=sz) (h2:v.aI=true) (h3:v.closed=true):eM sz (au es i v):=fun e he=>by
 rw [dy] at he
 rcases List.mem_or_eq_of_mem_set he with he | rfl
 ·exact h e he
 ·exact ⟨h1,h2,h3⟩
theorem sg {sz:Nat}:∀ {ps:List (Nat × AV)} {es es':List AV},An sz es ps=some es'→eM sz es →
  r8 (fun i=>some (i * sz,sz)) (ar es) ps=some (ar es')∧eM sz es'∧es'.length=es.length
 | [],es,es',h,hk=>by simp [An] at h; subst h; exact ⟨rfl,hk,rfl⟩
 | (i,v) :: ps,es,es',h,hk=>by
  unfold An at h
  split at h
  ·rename_i hc
   simp only [Bool.and_eq_true] at hc
   obtain ⟨⟨⟨hn,hl⟩,hi⟩,Ag⟩:=hc
   have Wp:=Nat.eq_of_beq_eq_true hl
   have oC:=Nat.le_of_ble_eq_true hi
   obtain ⟨g1,g2,g3⟩:=sg h (xK hk Wp hn Ag)
   refine ⟨?_,g2,by simpa using g3⟩
   unfold r8
   have hle:Nat.ble (i * sz+sz) (ar es).length=true:=by
    apply Nat.ble_eq_true_of_le
    rw [cq hk,← Nat.succ_mul]
    exact Nat.mul_le_mul_right _ oC
   simp only [hn,hl,hle,Bool.and_self,if_true]
   rw [← uq hk (by omega) Wp]
   exact g1
  ·cases h
section ops
variable {E:Env} {R:af} {w:World} {β:Nat→Nat} {s:St} {a:Act} {o:Oper}
def af.Qk (R:af) (b:Nat):af:=⟨fun b' o=>R.I b' o∨b'=b,R.obj⟩
theorem yW (wf:∀ b o,R.I b o→b < w.heap.size) (x:Obj):Ext R w (R.Qk w.heap.size) (w.alloc x):=
 ⟨fun _ _ h=>.inl h,fun b o h=>bo (heap_alloc_old w x b (wf b o h)) o,fun _ ro h=>⟨ro,h,bI.refl ro⟩,.old fun b hb=>heap_alloc_old w x b hb⟩
theorem aL.Qk (h:aL E R w β s a) (x:Obj):aL E (R.Qk w.heap.size) (w.alloc x) β s a:=
 h.bl (yW h.g.wf x) rfl (fun b hb=>heap_alloc_old w x b (h.cI hb)) (fun b o hb hi=>by
  rcases hi with hi | hi
  ·exact hi
  ·have:=h.cI hb
   omega) (fun b o hi=>by
  rcases hi with hi | hi
  ·have:=h.g.wf b o hi
   simp
   omega
  ·simp
   omega)
theorem GC (h:aL E R w β s a) (x:Obj):Step R w β s.boxes (R.Qk w.heap.size) (w.alloc x) β s.boxes:=
 ⟨yW h.g.wf x,rfl,rfl,rfl,by simp,fun b hb _=>heap_alloc_old w x b hb,fun _ _ ho=>ho,fun b o hi hb _=>by
  rcases hi with hi | hi
  ·exact hi
  ·omega⟩
theorem mu (z:Array Value):∀ (n:Nat),(((Array.range (n * z.size)).map fun i=>z[i % z.size]!)).toList=(List.replicate n z.toList).flatten
 | 0=>by simp
 | n+1=>by
  have ih:=mu z n
  simp only [Array.toList_map,Array.toList_range] at ih ⊢
  rw [Nat.add_mul,Nat.one_mul,List.range_add,List.map_append,ih,List.replicate_succ',List.flatten_append]
  congr 1
  simp only [List.map_map,List.flatten_cons,List.flatten_nil,List.append_nil]
  apply List.ext_getElem?
  intro i
  by_cases hi:i < z.size
  ·simp only [List.getElem?_map,List.getElem?_range hi,Option.map_some,Function.comp_apply]
   rw [Nat.mul_comm n,Nat.mul_add_mod,Nat.mod_eq_of_lt hi]
   simp [hi]
  ·rw [List.getElem?_eq_none (by simp; omega),List.getElem?_eq_none (by simp; omega)]
theorem kH {z:AV} {c:Value} (hr:Rel R w z c) (hn:z.aI=true):∀ (n:Nat),aA R w (ar (List.replicate n z)) (List.replicate n c.cells.toList).flatten∧∀ v∈(List.replicate n c.cells.toList).flatten,v.oneCell'=true
 | 0=>by simp [ar]; exact .nil
 | n+1=>by
  obtain ⟨c1,c2⟩:=Rel.cells hr hn
  obtain ⟨h1,h2⟩:=kH hr hn n
  refine ⟨?_,fun v hv=>?_⟩
  ·simpa [List.replicate_succ,ar] using c1.append h1
  ·simp only [List.replicate_succ,List.flatten_cons,List.mem_append] at hv
   rcases hv with hv | hv
   ·exact c2 v hv
   ·exact h2 v hv
theorem rq:∀ {ps:List (Nat × AV)} {us:List Value},aA R w (ps.map (·.2)) us→aA R w ((xw ps).map (·.2)) us
 | [],_,h=>h
 | (_,_) :: _,_,.cons h t=>.cons h.fB (rq t)
theorem rr:∀ (ps:List (Nat × AV)),(xw ps).map (·.1)=ps.map (·.1)
 | []=>rfl
 | (i,v) :: l=>by simp [xw,rr l]
theorem gn (h:aL E R w β s a) (t:TypeId) (len:Nat) (parts:Array (Nat × Operand)) (ho:o.op=.buildSlice t len parts) {v:AV} (hv:bR E s t len parts.toList=some v) :
  ∃ es esz us elem,v=.list .full esz es∧(execOp a.eval o).run E.P w=.ok (.value (.slice (some ⟨w.heap.size,0,none⟩) len len)) (w.alloc (.cells ⟨us⟩ elem))∧eM esz es∧es.length=len∧aA R w (ar es) us∧(∀ x∈us,x.oneCell'=true)∧∃ i ag lU z,E.ti t=some i∧i.k=.sl elem esz ag lU z:=by
 unfold bR at hv
 split at hv
 ·rename_i i ps hi F9
  split at hv
  ·rename_i elem esz ag lU z hk
   split at hv
   ·rename_i hc
    simp only [Bool.and_eq_true] at hc
    obtain ⟨⟨⟨⟨Cj,QR⟩,QS⟩,hz4⟩,hz5⟩:=hc
    have Cj:=Nat.eq_of_beq_eq_true Cj
    have QR:=Nat.le_of_ble_eq_true QR
    have QS:=Nat.le_of_ble_eq_true QS
    split at hv
    ·rename_i es Av
     cases hv
     obtain ⟨eP,u,e1,e2,e3,e4,e5,e6⟩:=bH E hi
     rw [hk] at e5
     obtain ⟨ie,ue,rfl,f1,f2,f3,f4,f5,f6⟩:=cp e5
     obtain ⟨zc,kz,Af⟩:=cw f6
     have LZ:=Af R w
     obtain ⟨c1,c2⟩:=Rel.cells LZ hz4
     have nS:zc.cells.size=esz:=by rw [← Cj,c1.length]; simp
     obtain ⟨p1,p2⟩:=tB h F9
     obtain ⟨z1,z2⟩:=kH LZ hz4 len
     obtain ⟨g1,g2,g3⟩:=sg Av (du Cj hz4 hz5)
     obtain ⟨us,u1,u2,u3⟩:=ms (R:=R) (w:=w) _ (rq p1) ((rr ps).trans p2) z1 z2 g1
     have MV:(parts.map fun (x:Nat × Operand)=>(x.1,a.eval x.2)).toList=parts.toList.map fun x=>(x.1,a.eval x.2):=by simp
     have iW:((Array.range (len * esz)).map fun i=>zc.cells[i % zc.cells.size]!)=⟨(List.replicate len zc.cells.toList).flatten⟩:=by
      apply Array.ext'
      rw [← nS]
      exact mu zc.cells len
     have hlen:es.length=len:=by simpa using g3
     have aW:(Instr.buildSlice t len (parts.map fun (x:Nat × Operand)=>(x.1,a.eval x.2))).run E.P w=.ok (.slice (some ⟨w.heap.size,0,none⟩) len len) (w.alloc (.cells ⟨us⟩ elem)):=by
      have Jj:¬ len * esz > 2 ^ 24:=by omega
      by_cases h0:len * esz=0
      ·have tC:len=0:=by
        rcases Nat.mul_eq_zero.1 h0 with h0 | h0 <;> omega
       subst tC
       have Uf:Instr.fill (fun i=>some (i * esz,esz)) #[] (parts.toList.map fun x=>(x.1,a.eval x.2))=some ⟨us⟩:=by simpa using u1
       simp only [Instr.buildSlice,Sem.run_bind,run_underlying e2,Result.andThen_ok,run_sizeOf w f1,f2]
       simp only [Nat.zero_mul,gt_iff_lt,Nat.not_lt_zero,if_false,if_true,Sem.run_bind,Sem.run_pure,Result.andThen_ok,MV]
       have Aw:∀ f:Nat→Value,Array.map f (Array.range 0)=#[]:=fun f=>by simp
       simp only [Aw,Uf,newRow,Sem.run_bind,run_newObj,Result.andThen_ok,Sem.run_pure]
       rfl
      ·simp only [Instr.buildSlice,Sem.run_bind,run_underlying e2,Result.andThen_ok,run_sizeOf w f1,f2]
       rw [if_neg Jj,if_neg h0]
       simp only [Sem.run_bind,Sem.run_pure,Result.andThen_ok,fE w f1 kz,MV,iW,u1,newRow,run_newObj]
       rfl
     exact ⟨es,esz,us,elem,rfl,by simp only [execOp,ho,Sem.run_bind,aW,Result.andThen_ok,Sem.run_pure],g2,hlen,u2,u3,i,ag,lU,_,hi,hk⟩
    ·cases hv
   ·cases hv
  ·cases hv
 ·cases hv
theorem sY (h:aL E R w β s a) (t:TypeId) (len:Nat) (parts:Array (Nat × Operand)) (ho:o.op=.buildSlice t len parts) {cs:List AV} (hv:iU E s t len parts.toList=some cs) :
  ∃ esz us elem,(execOp a.eval o).run E.P w=.ok (.value (.slice (some ⟨w.heap.size,0,none⟩) len len)) (w.alloc (.cells ⟨us⟩ elem))∧aA R w cs us∧(∀ x∈us,x.oneCell'=true)∧∃ i ag lU z,E.ti t=some i∧i.k=.sl elem esz ag lU z:=by
 unfold iU at hv
 split at hv
 ·rename_i i ps hi F9
  split at hv
  ·rename_i elem esz ag lU z hk
   split at hv
   ·rename_i hc
    simp only [Bool.and_eq_true] at hc
    obtain ⟨⟨⟨Cj,QR⟩,QS⟩,hz4⟩:=hc
    have Cj:=Nat.eq_of_beq_eq_true Cj
    have QR:=Nat.le_of_ble_eq_true QR
    have QS:=Nat.le_of_ble_eq_true QS
    ·have g1:=hv
     obtain ⟨eP,u,e1,e2,e3,e4,e5,e6⟩:=bH E hi
     rw [hk] at e5
     obtain ⟨ie,ue,rfl,f1,f2,f3,f4,f5,f6⟩:=cp e5
     obtain ⟨zc,kz,Af⟩:=cw f6
     have LZ:=Af R w
     obtain ⟨c1,c2⟩:=Rel.cells LZ hz4
     have nS:zc.cells.size=esz:=by rw [← Cj,c1.length]; simp
     obtain ⟨p1,p2⟩:=tB h F9
     obtain ⟨z1,z2⟩:=kH LZ hz4 len
     obtain ⟨us,u1,u2,u3⟩:=ms (R:=R) (w:=w) _ (rq p1) ((rr ps).trans p2) z1 z2 g1
     have MV:(parts.map fun (x:Nat × Operand)=>(x.1,a.eval x.2)).toList=parts.toList.map fun x=>(x.1,a.eval x.2):=by simp
     have iW:((Array.range (len * esz)).map fun i=>zc.cells[i % zc.cells.size]!)=⟨(List.replicate len zc.cells.toList).flatten⟩:=by
      apply Array.ext'
      rw [← nS]
      exact mu zc.cells len
     have aW:(Instr.buildSlice t len (parts.map fun (x:Nat × Operand)=>(x.1,a.eval x.2))).run E.P w=.ok (.slice (some ⟨w.heap.size,0,none⟩) len len) (w.alloc (.cells ⟨us⟩ elem)):=by
      have Jj:¬ len * esz > 2 ^ 24:=by omega
      by_cases h0:len * esz=0
      ·have tC:len=0:=by
        rcases Nat.mul_eq_zero.1 h0 with h0 | h0 <;> omega
       subst tC
       have Uf:Instr.fill (fun i=>some (i * esz,esz)) #[] (parts.toList.map fun x=>(x.1,a.eval x.2))=some ⟨us⟩:=by simpa using u1
       simp only [Instr.buildSlice,Sem.run_bind,run_underlying e2,Result.andThen_ok,run_sizeOf w f1,f2]
       simp only [Nat.zero_mul,gt_iff_lt,Nat.not_lt_zero,if_false,if_true,Sem.run_bind,Sem.run_pure,Result.andThen_ok,MV]
       have Aw:∀ f:Nat→Value,Array.map f (Array.range 0)=#[]:=fun f=>by simp
       simp only [Aw,Uf,newRow,Sem.run_bind,run_newObj,Result.andThen_ok,Sem.run_pure]
       rfl
      ·simp only [Instr.buildSlice,Sem.run_bind,run_underlying e2,Result.andThen_ok,run_sizeOf w f1,f2]
       rw [if_neg Jj,if_neg h0]
       simp only [Sem.run_bind,Sem.run_pure,Result.andThen_ok,fE w f1 kz,MV,iW,u1,newRow,run_newObj]
       rfl
     exact ⟨esz,us,elem,by simp only [execOp,ho,Sem.run_bind,aW,Result.andThen_ok,Sem.run_pure],u2,u3,i,ag,lU,_,hi,hk⟩
   ·cases hv
  ·cases hv
 ·cases hv
theorem sZ (h:aL E R w β s a) (t:TypeId) (len:Nat) (parts:Array (Nat × Operand)) (ho:o.op=.buildSlice t len parts) {v:AV} (hv:bR E s t len parts.toList=some v) :
  bn E R w β s a o (s.put o.dst (.v v)):=by
 obtain ⟨es,esz,us,elem,rfl,aW,g2,hlen,u2,u3,_⟩:=gn h t len parts ho hv
 have e:=yW (R:=R) (w:=w) h.g.wf (.cells ⟨us⟩ elem)
 refine ⟨_,.slice (some ⟨w.heap.size,0,none⟩) len len,_,R.Qk w.heap.size,β,aW,.inl rfl,(h.Qk (.cells ⟨us⟩ elem)).put o.dst ?_,by rw [aO]; exact GC h _⟩
 refine Rel.list (jf g2 (dN.make (u2.mono e) u3 (fun j x hx=>?_) (fun j _=>.inr rfl))) hlen.symm (Nat.le_refl _) rfl
 rw [gZ (heap_alloc_new w _)]
 simpa using hx
theorem ru (h:aL E R w β s a) (t:TypeId) (len:Nat) (parts:Array (Nat × Operand)) (ho:o.op=.buildSlice t len parts) {cs:List AV} (hv:iU E s t len parts.toList=some cs) {i:TI} (hi:E.ti t=some i) {el:TypeId} {esz eb:Nat} {ag:Bool} {z:Option AV} (hk:i.k=.sl el esz ag eb z) :
  bn E R w β s a o ((s.cU (.row cs el)).put o.dst (.v (.gC s.G.length 0 esz len len))):=by
 obtain ⟨MW,us,elem,aW,u2,u3,i',Ug,Ql,z',oC,fA⟩:=sY h t len parts ho hv
 rw [hi] at oC
 cases oC
 rw [hk] at fA
 cases fA
 have e:=fg (R:=R) (w:=w) h.g.wf (.cells ⟨us⟩ el) (.bi w.heap.size)
 have fc:fa (R.add (.bi w.heap.size)) (w.alloc (.cells ⟨us⟩ el)) (.row cs el) (.bi w.heap.size):=
  ⟨_,heap_alloc_new w _,u2.mono e,u3,fun o' hi=>by have:=h.g.wf _ _ hi; omega⟩
 exact ⟨_,_,_,R.add (.bi w.heap.size),β,aW,.inl rfl,(h.jn _ _ _ (by exact fun _ h=>h) fc).put o.dst (x:=.v (.gC s.G.length 0 esz len len)) (Rel.gC (fh h _) (Nat.le_refl _)),by rw [aO]; exact cA h _ _ (by exact fun _ h=>h)⟩
theorem rv (h:aL E R w β s a) (t:TypeId) (len:Nat) (parts:Array (Nat × Operand)) (ho:o.op=.buildSlice t len parts) {k:LK} {esz:Nat} {es:List AV} (hv:bR E s t len parts.toList=some (.list k esz es)) {i:TI} (hi:E.ti t=some i) {el:TypeId} {aT eb:Nat} {ag:Bool} {z:Option AV} (hk:i.k=.sl el aT ag eb z) :
  bn E R w β s a o ((s.cU (.row (ar es) el)).put o.dst (.v (.gC s.G.length 0 esz len len))):=by
 obtain ⟨es',MW,us,elem,QT,aW,g2,hlen,u2,u3,i',Ug,Ql,z',oC,fA⟩:=gn h t len parts ho hv
 cases QT
 rw [hi] at oC
 cases oC
 rw [hk] at fA
 cases fA
 have e:=fg (R:=R) (w:=w) h.g.wf (.cells ⟨us⟩ el) (.bi w.heap.size)
 have fc:fa (R.add (.bi w.heap.size)) (w.alloc (.cells ⟨us⟩ el)) (.row (ar es) el) (.bi w.heap.size):=
  ⟨_,heap_alloc_new w _,u2.mono e,u3,fun o' hi=>by have:=h.g.wf _ _ hi; omega⟩
 exact ⟨_,_,_,R.add (.bi w.heap.size),β,aW,.inl rfl,(h.jn _ _ _ (by exact fun _ h=>h) fc).put o.dst (x:=.v (.gC s.G.length 0 esz len len)) (Rel.gC (fh h _) (Nat.le_refl _)),by rw [aO]; exact cA h _ _ (by exact fun _ h=>h)⟩
end ops
end Go.Am
namespace Go.Am
open Go
section ops
variable {E:Env} {R:af} {w:World} {β:Nat→Nat} {s:St} {a:Act} {o:Oper}
def MX (R:af) (w:World) (β:Nat→Nat):Option SV→Option Value→Prop
 | none,none=>True
 | some x,some c=>lZ R w β x c
 | _,_=>False
theorem xL {y y' n:Nat} {x:SV} {c:Value} (hx:lZ R w β x c) (hb:tZ y x=some (true,n)) (hy:y≤y') (code:BoundsCode) :
  (Instr.sliceBound c y' code).run E.P w=.ok n w∧n≤y:=by
 unfold tZ at hb
 split at hb
 ·rename_i k m
  injection hb with hb
  injection hb with h1 h2
  subst h2
  obtain ⟨h0,h3⟩:=of_decide_eq_true h1
  have sW:Rel R w (.int k m) c:=hx
  cases sW
  exact ⟨run_sliceBound (P:=E.P) w k m y' code h0 (by omega),by omega⟩
 ·cases hb
theorem cZ (Wq:Bool) {len cap l h:Nat} (Ae:len≤cap) {lo hi:Option SV} {lv hv:Option Value} (hl:MX R w β lo lv) (hh:MX R w β hi hv) (hb:yM len lo hi=some (true,l,h)) :
  (Instr.sliceBounds Wq len cap lv hv none).run E.P w=.ok (l,h,cap) w∧l≤h∧h≤len:=by
 unfold yM at hb
 split at hb
 ·cases hb
 ·rename_i c1 h' iw
  split at hb
  ·cases hb
  ·rename_i c2 l' MY
   injection hb with hb
   injection hb with hc hb
   injection hb with e1 e2
   subst e1; subst e2
   simp only [Bool.and_eq_true] at hc
   obtain ⟨rfl,rfl⟩:=hc
   have H:∃ _:True,(match hv with | some v=>Instr.sliceBound v cap (if Wq=true then .sliceAcap else .sliceAlen) | none=>pure len).run E.P w=.ok h' w∧h'≤len:=by
    refine ⟨trivial,?_⟩
    cases hi with
    | none=>cases hv with
     | none=>simp at iw; subst iw; exact ⟨rfl,Nat.le_refl _⟩
     | some v=>exact hh.elim
    | some x=>cases hv with
     | none=>exact hh.elim
     | some v=>exact xL (E:=E) hh iw Ae _
   have L:∃ _:True,(match lv with | some v=>Instr.sliceBound v h' .sliceB | none=>pure 0).run E.P w=.ok l' w∧l'≤h':=by
    refine ⟨trivial,?_⟩
    cases lo with
    | none=>cases lv with
     | none=>simp at MY; subst MY; exact ⟨rfl,Nat.zero_le _⟩
     | some v=>exact hl.elim
    | some x=>cases lv with
     | none=>exact hl.elim
     | some v=>exact xL (E:=E) hl MY (Nat.le_refl _) _
   obtain ⟨_,H1,H2⟩:=H
   obtain ⟨_,L1,L2⟩:=L
   refine ⟨?_,L2,H2⟩
   cases hv <;> cases lv <;> simp_all [Instr.sliceBounds]
theorem pH (h:aL E R w β s a) {x:Option Operand} {y:Option SV} (hx:jN E s.ab x=some y):MX R w β y (x.map a.eval):=by
 cases x with
 | none=>simp [jN] at hx; subst hx; trivial
 | some x=>simp [jN] at hx; subst hx; exact aF h x
theorem mw {α:Type} {l:List α} {lo hi:Nat} (h:hi≤l.length):(iA lo hi l).length=hi - lo:=by
 simp [iA]
 omega
theorem wQ (l:List UInt8) (lo hi:Nat):(⟨⟨l⟩⟩:ByteArray).extract lo hi=⟨⟨iA lo hi l⟩⟩:=by
 apply ByteArray.ext
 rw [ByteArray.data_extract]
 apply Array.ext'
 simp [List.extract_eq_take_drop,iA,List.drop_take]
theorem DU {ag:Bool} {b sz:Nat} (dl:(ag || Nat.beq sz 1)=true):∀ (n:Nat) {cs:List AV} {o:Nat},dN R w b o cs→n * sz≤cs.length→allFit (B1 ag) (fM ag sz n cs)=true→eY R w b o sz (fM ag sz n cs)
 | 0,_,_,_,_,_=>.nil
 | n+1,cs,o,hc,hl,hf=>by
  simp only [fM,allFit,Bool.and_eq_true] at hf
  obtain ⟨s7,Tb⟩:=hf
  unfold B1 at s7
  simp only [Bool.and_eq_true] at s7
  obtain ⟨⟨h1,h2⟩,h3⟩:=s7
  have hle:sz≤cs.length:=by rw [Nat.succ_mul] at hl; omega
  have kl:(QI ag (cs.take sz)).cells=cs.take sz:=by
   cases ag with
   | true=>rfl
   | false=>
    have Ji:sz=1:=by simpa using dl
    subst Ji
    match cs,hle with
    | a :: cs,_=>
     show AV.cells a=[a]
     have ho:a.one=true:=by simpa [QI,dm] using h2
     cases a <;> first | rfl | simp [AV.one] at ho
  obtain ⟨vs,k1,k2,k3,k4⟩:=hc.get
  have hA:dN R w b o (cs.take sz):=dN.make (k1.take sz) (fun v hv=>k2 v (List.mem_of_mem_take hv)) (fun j v hv=>k3 j v (by
   rw [List.getElem?_take] at hv
   split at hv
   ·exact hv
   ·cases hv)) (fun j hj=>k4 j (by rw [List.length_take] at hj; omega))
  exact .cons (by rw [kl,List.length_take,Nat.min_eq_left hle]) h1 h3 (by rw [kl]; exact hA) (DU dl n (hc.drop sz) (by rw [List.length_drop]; rw [Nat.succ_mul] at hl; omega) Tb)
theorem nX (ag:Bool) (sz:Nat):∀ (n:Nat) (cs:List AV),(fM ag sz n cs).length=n
 | 0,_=>rfl
 | n+1,cs=>by simp [fM,nX ag sz n]
theorem Ck (h:aL E R w β s a) (t:TypeId) (x:Operand) (lo hi:Option Operand) (ho:o.op=.slice t x lo hi none) {l h':Option SV} (hl:jN E s.ab lo=some l) (hh:jN E s.ab hi=some h') {v:AV} (hv:yN E t (ba E s.ab x) l h' none=some (true,v)) :
  bn E R w β s a o (s.put o.dst (.v v)):=by
 have rx:=aF h x
 have rl:=pH h hl
 have rh:=pH h hh
 unfold yN at hv
 split at hv
 ·rename_i i oC Wr
  obtain ⟨eP,u,e1,e2,e3,e4,e5,e6⟩:=bH E oC
  split at hv
  ·-- a string
   rename_i bs hk hx
   rw [hx] at rx
   have cF:Rel R w (.str bs) (a.eval x):=rx
   generalize dP:a.eval x=xv at cF
   cases cF
   rw [hk] at e5
   have:=jo e5
   subst this
   split at hv
   ·rename_i c p q hb
    injection hv with hv
    injection hv with h1 h2
    subst h1; subst h2
    obtain ⟨k1,k2,k3⟩:=cZ (E:=E) false (Nat.le_refl _) rl rh hb
    refine an h (c:=.string ⟨⟨iA p q bs⟩⟩) ?_ (Rel.str _)
    rw [← wQ]
    simp only [execOp,ho,Instr.sliceAt,Sem.run_bind,run_underlying e2,Result.andThen_ok,Instr.slice,dP,Option.map_none,Option.isSome_none,Bool.false_eq_true,if_false,size_bytes,k1,Sem.run_pure]
   ·cases hv
  ·-- a list
   rename_i elem esz ag lU z k sz es hk hx
   rw [hx] at rx
   rw [hk] at e5
   obtain ⟨ie,ue,rfl,f1,f2,f3,f4,f5,f6⟩:=cp e5
   split at hv
   ·rename_i dl
    split at hv
    ·rename_i c p q hb
     injection hv with hv
     injection hv with h1 h2
     subst h1; subst h2
     have cF:Rel R w (.list k sz es) (a.eval x):=rx
     generalize dP:a.eval x=xv at cF
     cases cF with
     | gF=>
      obtain ⟨k1,k2,k3⟩:=cZ (E:=E) true (Nat.le_refl _) rl rh hb
      simp only [List.length_nil,Nat.le_zero_eq] at k3
      subst k3
      have:p=0:=by omega
      subst this
      refine an h (c:=.slice none 0 0) ?_ ?_
      ·simp only [execOp,ho,Instr.sliceAt,Sem.run_bind,run_underlying e2,Result.andThen_ok,Instr.slice,dP,Option.map_none]
       simp only [List.length_nil] at k1
       simp [k1,run_sizeOf w f1]
      ·exact Rel.gF
     | gl=>
      obtain ⟨k1,k2,k3⟩:=cZ (E:=E) true (Nat.le_refl _) rl rh hb
      simp only [List.length_nil,Nat.le_zero_eq] at k3
      subst k3
      have:p=0:=by omega
      subst this
      refine an h (c:=.slice none 0 0) ?_ ?_
      ·simp only [execOp,ho,Instr.sliceAt,Sem.run_bind,run_underlying e2,Result.andThen_ok,Instr.slice,dP,Option.map_none]
       simp only [List.length_nil] at k1
       simp [k1,run_sizeOf w f1]
      ·exact Rel.gl
     | @ki _ ad=>
      obtain ⟨k1,k2,k3⟩:=cZ (E:=E) true (Nat.le_refl _) rl rh hb
      simp only [List.length_nil,Nat.le_zero_eq] at k3
      subst k3
      have:p=0:=by omega
      subst this
      refine an h (c:=.slice (some ad) 0 0) ?_ ?_
      ·simp only [execOp,ho,Instr.sliceAt,Sem.run_bind,run_underlying e2,Result.andThen_ok,Instr.slice,dP,Option.map_none]
       simp only [List.length_nil] at k1
       simp [k1,run_sizeOf w f1]
      ·exact Rel.ki
     | jl h0 h00=>
      obtain ⟨k1,k2,k3⟩:=cZ (E:=E) true (Nat.le_refl _) rl rh hb
      simp only [List.length_nil,Nat.le_zero_eq] at k3
      subst k3
      have:p=0:=by omega
      subst this
      refine an h (c:=.slice none 0 0) ?_ ?_
      ·simp only [execOp,ho,Instr.sliceAt,Sem.run_bind,run_underlying e2,Result.andThen_ok,Instr.slice,dP,Option.map_none]
       simp only [List.length_nil] at k1
       simp [k1,run_sizeOf w f1]
      ·exact Rel.gl
     | jO h0 h00=>
      obtain ⟨k1,k2,k3⟩:=cZ (E:=E) true (Nat.le_refl _) rl rh hb
      simp only [List.length_nil,Nat.le_zero_eq] at k3
      subst k3
      have:p=0:=by omega
      subst this
      refine an h (c:=.slice none 0 0) ?_ ?_
      ·simp only [execOp,ho,Instr.sliceAt,Sem.run_bind,run_underlying e2,Result.andThen_ok,Instr.slice,dP,Option.map_none]
       simp only [List.length_nil] at k1
       simp [k1,run_sizeOf w f1]
      ·exact Rel.gl
     | @list _ _ _ b o' len cap hr hlen dW Cd=>
      subst hlen
      obtain ⟨k1,k2,k3⟩:=cZ (E:=E) true dW rl rh hb
      have QU:es≠[]→sz=esz:=fun bW=>by
       simp only [Bool.or_eq_true] at dl
       rcases dl with hc | hc
       ·exact Nat.eq_of_beq_eq_true hc
       ·simp at hc; exact absurd hc bW
      have aW:(execOp a.eval o).run E.P w=.ok (.value (.slice (if cap=p then some ⟨b,o',none⟩ else some ⟨b,o'+p * esz,none⟩) (q - p) (cap - p))) w:=by
       simp only [execOp,ho,Instr.sliceAt,Sem.run_bind,run_underlying e2,Result.andThen_ok,Instr.slice,dP,Option.map_none,k1,run_sizeOf w f1,f2,Sem.run_pure,Option.map_some,bO]
      have sh:∀ b2 o2,yP R (match k with | .nil=>LK.nil | .full=>(match h' with | none=>LK.full | some _=>LK.gA) | _=>LK.gA) b2 o2 (q - p) (cap - p):=by
       intro b2 o2
       cases k with
       | nil=>exact Cd.elim
       | gA=>trivial
       | own id=>trivial
       | aH id j=>trivial
       | full=>
        have hc:cap=es.length:=Cd
        cases h' with
        | some _=>trivial
        | none=>
         have hq:q=es.length:=by
          unfold yM at hb
          simp only at hb
          split at hb
          ·cases hb
          ·injection hb with hb
           injection hb with _ hb
           injection hb with _ hb
           exact hb.symm
         show cap - p=q - p
         omega
      by_cases JM:cap=p
      ·refine an h (c:=.slice (some ⟨b,o',none⟩) (q - p) (cap - p)) (by rw [aW,if_pos JM]) ?_
       have he:iA p q es=[]:=List.eq_nil_of_length_eq_zero (by rw [mw k3]; omega)
       exact Rel.list (by rw [he]; exact .nil) (by rw [mw k3]) (by omega) (sh _ _)
      ·refine an h (c:=.slice (some ⟨b,o'+p * esz,none⟩) (q - p) (cap - p)) (by rw [aW,if_neg JM]) ?_
       refine Rel.list ?_ (by rw [mw k3]) (by omega) (sh _ _)
       by_cases bW:es=[]
       ·subst bW
        simp [iA]
        exact .nil
       ·have:=QU bW
        subst this
        exact rk p (rn q hr)
    ·cases hv
   ·cases hv
  ·-- a heap slice
   rename_i elem esz ag lU z id off sz len cap hk hx
   rw [hx] at rx
   rw [hk] at e5
   obtain ⟨ie,ue,rfl,f1,f2,f3,f4,f5,f6⟩:=cp e5
   split at hv
   ·rename_i dl
    have dl:=Nat.eq_of_beq_eq_true dl
    subst dl
    split at hv
    ·rename_i c p q hb
     injection hv with hv
     injection hv with h1 h2
     subst h1; subst h2
     have cF:Rel R w (.gC id off sz len cap) (a.eval x):=rx
     generalize dP:a.eval x=xv at cF
     cases cF with
     | @gC _ _ _ _ _ b Uh dW=>
      obtain ⟨k1,k2,k3⟩:=cZ (E:=E) true dW rl rh hb
      refine an h (c:=.slice (some ⟨b,bif Nat.beq cap p then off else off+p * sz,none⟩) (q - p) (cap - p)) ?_ (Rel.gC Uh (by omega))
      have hb:(bif Nat.beq cap p then off else off+p * sz)=if cap=p then off else off+p * sz:=by
       by_cases e:cap=p
       ·rw [if_pos e,e,show Nat.beq p p=true from Nat.beq_refl p]; rfl
       ·rw [if_neg e]
        cases hq:Nat.beq cap p with
        | true=>exact absurd (Nat.eq_of_beq_eq_true hq) e
        | false=>rfl
      rw [hb]
      simp only [execOp,ho,Instr.sliceAt,Sem.run_bind,run_underlying e2,Result.andThen_ok,Instr.slice,dP,Option.map_none,k1,run_sizeOf w f1,f2,Sem.run_pure,Option.map_some,bO]
      split <;> rfl
    ·cases hv
   ·cases hv
  ·-- a slice that grows
   rename_i elem esz ag lU z id f' off sz len hk hx
   rw [hx] at rx
   rw [hk] at e5
   obtain ⟨ie,ue,rfl,f1,f2,f3,f4,f5,f6⟩:=cp e5
   split at hv
   ·rename_i dl
    have dl:=Nat.eq_of_beq_eq_true dl
    subst dl
    split at hv
    ·rename_i c p q hb
     injection hv with hv
     injection hv with h1 h2
     subst h1; subst h2
     have cF:Rel R w (.cL id f' off sz len) (a.eval x):=rx
     generalize dP:a.eval x=xv at cF
     cases cF with
     | gB h0 h00=>
      obtain ⟨k1,k2,k3⟩:=cZ (E:=E) true (Nat.le_refl _) rl rh hb
      simp only [Nat.le_zero_eq] at k3
      subst k3
      have:p=0:=by omega
      subst this
      refine an h (c:=.slice none 0 0) ?_ ?_
      ·simp only [execOp,ho,Instr.sliceAt,Sem.run_bind,run_underlying e2,Result.andThen_ok,Instr.slice,dP,Option.map_none]
       simp [k1,run_sizeOf w f1]
      ·exact Rel.gB h0 h00
     | @cL _ _ _ _ _ cap b o' ro aR cM dW=>
      obtain ⟨k1,k2,k3⟩:=cZ (E:=E) true dW rl rh hb
      have aW:(execOp a.eval o).run E.P w=.ok (.value (.slice (if cap=p then some ⟨b,o',none⟩ else some ⟨b,o'+p * sz,none⟩) (q - p) (cap - p))) w:=by
       simp only [execOp,ho,Instr.sliceAt,Sem.run_bind,run_underlying e2,Result.andThen_ok,Instr.slice,dP,Option.map_none,k1,run_sizeOf w f1,f2,Sem.run_pure,Option.map_some,bO]
      have Ws:∀ o2,(o2=o'+p * sz∨cap=p)→EP b o2 f' (off+p) sz (cap - p) ro:=fun o2 h2=>by
       cases ro with
       | none=>trivial
       | aN=>exact cM.elim
       | bi _=>exact cM.elim
       | aH _=>exact cM.elim
       | tok f1 b1 c1=>
        refine ⟨cM.1,fun e=>?_⟩
        obtain ⟨q1,q2,q3⟩:=cM.2 e
        refine ⟨q1,by omega,?_⟩
        rcases h2 with h2 | h2
        ·rcases q3 with q3 | q3
         ·exact .inl (by rw [h2,q3,Nat.add_mul])
         ·exact .inr (by omega)
        ·exact .inr (by omega)
      by_cases JM:cap=p
      ·exact an h (c:=.slice (some ⟨b,o',none⟩) (q - p) (cap - p)) (by rw [aW,if_pos JM]) (Rel.cL aR (Ws _ (.inr JM)) (by omega))
      ·exact an h (c:=.slice (some ⟨b,o'+p * sz,none⟩) (q - p) (cap - p)) (by rw [aW,if_neg JM]) (Rel.cL aR (Ws _ (.inl rfl)) (by omega))
    ·cases hv
   ·cases hv
  ·-- an array that never changes again
   rename_i len esz ag cs hk hx
   rw [hx] at rx
   rw [hk] at e5
   obtain ⟨e,ie,ue,rfl,f1,f2,f3,f4⟩:=mr e5
   split at hv
   ·split at hv
    ·rename_i bF
     simp only [Bool.and_eq_true] at bF
     obtain ⟨⟨⟨c1,c2⟩,c3⟩,c4⟩:=bF
     injection hv with hv
     injection hv with _ h2
     subst h2
     have cF:Rel R w (.ep cs) (a.eval x):=rx
     generalize dP:a.eval x=xv at cF
     cases cF with
     | @ep _ b o' hr=>
     obtain ⟨k1,_,_⟩:=cZ (E:=E) (w:=w) (R:=R) (β:=β) (l:=0) (h:=len) false (Nat.le_refl len) rl rh rfl
     refine an h (c:=.slice (some ⟨b,o',none⟩) len len) ?_ (Rel.list (DU c3 len hr (Nat.le_of_ble_eq_true c1) c4) (nX _ _ _ _).symm (Nat.le_refl _) rfl)
     simp only [execOp,ho,Instr.sliceAt,Sem.run_bind,run_underlying e2,Result.andThen_ok,dP,Instr.sureAddr,Option.map_none,k1,run_sizeOf w f1,f2,Sem.run_pure]
     by_cases tC:len=0
     ·subst tC
      simp
     ·simp [tC,bO]
    ·cases hv
   ·cases hv
  ·cases hv
 ·cases hv
theorem yX (h:aL E R w β s a) (t:TypeId) (ho:o.op=.makeMap t none):bn E R w β s a o ((s.cU (.map [])).put o.dst (.v (.map s.G.length))):=by
 have fc:fa (R.add (.bi w.heap.size)) (w.alloc (.map #[] 0)) (.map []) (.bi w.heap.size):=⟨#[],0,heap_alloc_new w _,trivial,rfl,fun i e he=>by simp at he⟩
 refine ⟨_,.map (some w.heap.size),w.alloc (.map #[] 0),R.add (.bi w.heap.size),β,?_,.inl rfl,(h.jn (.map #[] 0) (.map []) (.bi w.heap.size) (by exact fun _ h=>h) fc).put o.dst (x:=.v (.map s.G.length)) (Rel.map (fh h _)),by rw [aO]; exact cA h _ _ (by exact fun _ h=>h)⟩
 simp only [execOp,ho,Instr.makeMap,Option.map_none,Sem.run_bind,run_newObj,Result.andThen_ok,Sem.run_pure]
 rfl
theorem km (h:aL E R w β s a) (t:TypeId) (x y:Operand) (ho:o.op=.makeSlice t x y) {i:TI} (hi:E.ti t=some i) {k k':IntKind} {n m:Int} (hx:ba E s.ab x=.v (.int k n)) (hy:ba E s.ab y=.v (.int k' m))
  {elem esz lU:Nat} {ag:Bool} {z:AV} (hk:i.k=.sl elem esz ag lU (some z)) (hz:z.cells.length=esz) (Cj:1≤esz) (kG:z.aI=true) (hc:0≤n∧n≤m∧m≤140737488355328∧m * lU≤140737488355328) :
  ∃ us,aA R w (ar (List.replicate m.toNat z)) us∧(∀ v∈us,v.oneCell'=true)∧(execOp a.eval o).run E.P w=.ok (.value (.slice (some ⟨w.heap.size,0,none⟩) n.toNat m.toNat)) (w.alloc (.cells ⟨us⟩ elem)):=by
 have rx:=aF h x
 have ry:=aF h y
 rw [hx] at rx
 rw [hy] at ry
 have cF:Rel R w (.int k n) (a.eval x):=rx
 have mh:Rel R w (.int k' m) (a.eval y):=ry
 generalize dP:a.eval x=xv at cF
 generalize Qj:a.eval y=yv at mh
 cases cF
 cases mh
 obtain ⟨c1,c2,c3,c4⟩:=hc
 obtain ⟨eP,u,e1,e2,e3,e4,e5,e6⟩:=bH E hi
 rw [hk] at e5
 obtain ⟨ie,ue,rfl,f1,f2,f3,f4,f5,f6⟩:=cp e5
 obtain ⟨zc,kz,Af⟩:=cw f6
 have LZ:=Af R w
 obtain ⟨d1,d2⟩:=Rel.cells LZ kG
 have nS:zc.cells.size=esz:=by rw [← hz,d1.length]; simp
 obtain ⟨z1,z2⟩:=kH LZ kG m.toNat
 have iW:((Array.range (m.toNat * esz)).map fun i=>zc.cells[i % zc.cells.size]!)=⟨(List.replicate m.toNat zc.cells.toList).flatten⟩:=by
  apply Array.ext'
  rw [← nS]
  exact mu zc.cells m.toNat
 have wn:IntKind.i64.wrap n=n:=IntWalk.i64_in n (by omega)
 have wm:IntKind.i64.wrap m=m:=IntWalk.i64_in m (by omega)
 have aW:(Instr.makeSlice t (.int k n) (.int k' m)).run E.P w=.ok (.slice (some ⟨w.heap.size,0,none⟩) n.toNat m.toNat) (w.alloc (.cells ⟨(List.replicate m.toNat zc.cells.toList).flatten⟩ elem)):=by
  have hby:(ie.bytes:Int) * m≤281474976710656:=by rw [f3,Int.mul_comm]; omega
  have QV:¬ 281474976710656 < (ie.bytes:Int) * m:=by omega
  have h1:¬ m < 0:=by omega
  have h2:¬ n < 0:=by omega
  have h3:¬ m < n:=by omega
  have Ga:(typeInfo elem).run E.P w=.ok ie w:=by simp [typeInfo,f1]
  by_cases h0:m.toNat * esz=0
  ·have Wt:m.toNat=0:=by
    rcases Nat.mul_eq_zero.1 h0 with h0 | h0 <;> omega
   have Aw:∀ f:Nat→Value,Array.map f (Array.range 0)=#[]:=fun f=>by simp
   simp [Instr.makeSlice,run_underlying e2,asInt,asIntOf,Ga,wn,wm,h1,h2,h3,QV,run_sizeOf w f1,f2,Wt,newRow]
   rw [Aw]
  ·simp [Instr.makeSlice,run_underlying e2,asInt,asIntOf,Ga,wn,wm,h1,h2,h3,QV,run_sizeOf w f1,f2,h0,fE w f1 kz,newRow]
   rw [← iW]
 refine ⟨_,z1,z2,?_⟩
 simp only [execOp,ho,dP,Qj,Sem.run_bind,aW,Result.andThen_ok,Sem.run_pure]
theorem ur (h:aL E R w β s a) (t:TypeId) (x y:Operand) (ho:o.op=.makeSlice t x y) {i:TI} (hi:E.ti t=some i) {k k':IntKind} {n m:Int} (hx:ba E s.ab x=.v (.int k n)) (hy:ba E s.ab y=.v (.int k' m))
  {elem esz lU:Nat} {ag:Bool} {z:AV} (hk:i.k=.sl elem esz ag lU (some z)) (hz:z.cells.length=esz) (Cj:1≤esz) (kG:z.aI=true) (hc:0≤n∧n≤m∧m≤140737488355328∧m * lU≤140737488355328) :
  bn E R w β s a o ((s.cU (.row (ar (List.replicate m.toNat z)) elem)).put o.dst (.v (.gC s.G.length 0 esz n.toNat m.toNat))):=by
 obtain ⟨us,z1,z2,aW⟩:=km h t x y ho hi hx hy hk hz Cj kG hc
 have e:=fg (R:=R) (w:=w) h.g.wf (.cells ⟨us⟩ elem) (.bi w.heap.size)
 have fc:fa (R.add (.bi w.heap.size)) (w.alloc (.cells ⟨us⟩ elem)) (.row (ar (List.replicate m.toNat z)) elem) (.bi w.heap.size):=
  ⟨_,heap_alloc_new w _,z1.mono e,z2,fun o' hi=>by have:=h.g.wf _ _ hi; omega⟩
 exact ⟨_,.slice (some ⟨w.heap.size,0,none⟩) n.toNat m.toNat,_,R.add (.bi w.heap.size),β,aW,.inl rfl,(h.jn _ _ (.bi w.heap.size) (by exact fun _ h=>h) fc).put o.dst (x:=.v (.gC s.G.length 0 esz n.toNat m.toNat)) (Rel.gC (fh h _) (by omega)),by rw [aO]; exact cA h _ _ (by exact fun _ h=>h)⟩
end ops
end Go.Am
namespace Go.Am
open Go
section ops
variable {E:Env} {R:af} {w:World} {β:Nat→Nat} {s:St} {a:Act} {o:Oper}
theorem jq (x:Array Operand) (f:Operand→Value):x.map f=⟨x.toList.map f⟩:=Array.ext' (by simp)
theorem cN {b:Builtin} {args:Array Operand} {tys:Array TypeId} (ho:o.op=.call { callee:=.builtin b,args:=args,argTypes:=tys }) (vs:List Value) (hv:args.toList.map a.eval=vs) :
  (execOp a.eval o).run E.P w=(builtin b tys o.type (args.map fun | .const _=>true | _=>false) ⟨vs⟩).run E.P w:=by
 simp only [execOp,ho,resolve,Sem.run_bind,Sem.run_pure,Result.andThen_ok,invoke,jq args a.eval,hv]
 rfl
theorem cV.length:∀ {l:List (AV × AV)} {es:List MapEntry},cV R w l es→l.length=es.length
 | [],[],_=>rfl
 | _ :: _,_ :: _,h=>by simp [cV.length h.2.2]
 | [],_ :: _,h=>h.elim
 | _ :: _,[],h=>h.elim
theorem GD (h:aL E R w β s a) {args:Array Operand} {tys:List TypeId} (ho:o.op=.call { callee:=.builtin .len,args:=args,argTypes:=⟨tys⟩ }) {l:List AV} (hl:jU E s.ab args.toList=some l) {s':St} (hs:bJ E s o.dst .len l tys=some (true,s')) :
  bn E R w β s a o s':=by
 have hr:=er h hl
 generalize hv:args.toList.map a.eval=vs at hr
 have hx:=cN (E:=E) (w:=w) ho vs hv
 unfold bJ at hs
 split at hs <;> first | (rename_i h1; cases h1; done) | skip
 ·rename_i x
  cases hr with
  | cons h0 h1=>
  cases h1
  split at hs
  ·rename_i t tl
   split at hs
   ·rename_i i hi
    obtain ⟨eP,u,e1,e2,e3,e4,e5,e6⟩:=bH E hi
    split at hs
    ·rename_i bs hk
     cases hs
     cases h0
     rw [hk] at e5
     have:=jo e5
     subst this
     refine an h (c:=.int .i64 bs.length) ?_ (Rel.int _ _)
     rw [hx]
     simp [builtin,Builtin.len_,run_underlying e2,goInt,size_bytes]
    ·rename_i kk sz es hk
     cases hs
     rw [hk] at e5
     obtain ⟨ie,ue,rfl,_⟩:=cp e5
     refine an h (c:=.int .i64 es.length) ?_ (Rel.int _ _)
     rw [hx]
     cases h0 with
     | gF=>simp [builtin,Builtin.len_,run_underlying e2,goInt]
     | gl=>simp [builtin,Builtin.len_,run_underlying e2,goInt]
     | ki=>simp [builtin,Builtin.len_,run_underlying e2,goInt]
     | jl=>simp [builtin,Builtin.len_,run_underlying e2,goInt]
     | jO=>simp [builtin,Builtin.len_,run_underlying e2,goInt]
     | list _ hlen _ _=>subst hlen; simp [builtin,Builtin.len_,run_underlying e2,goInt]
    ·rename_i id off sz len cap hk
     cases hs
     rw [hk] at e5
     obtain ⟨ie,ue,rfl,_⟩:=cp e5
     refine an h (c:=.int .i64 len) ?_ (Rel.int _ _)
     rw [hx]
     cases h0
     simp [builtin,Builtin.len_,run_underlying e2,goInt]
    ·rename_i id f' off sz len hk
     cases hs
     rw [hk] at e5
     obtain ⟨ie,ue,rfl,_⟩:=cp e5
     refine an h (c:=.int .i64 len) ?_ (Rel.int _ _)
     rw [hx]
     cases h0 <;> simp [builtin,Builtin.len_,run_underlying e2,goInt]
    ·rename_i id j' sz len hk
     cases hs
     rw [hk] at e5
     obtain ⟨ie,ue,rfl,_⟩:=cp e5
     refine an h (c:=.int .i64 len) ?_ (Rel.int _ _)
     rw [hx]
     cases h0 <;> simp [builtin,Builtin.len_,run_underlying e2,goInt]
    ·rename_i n esz ag hk
     cases hs
     rw [hk] at e5
     obtain ⟨e,ie,ue,rfl,_⟩:=mr e5
     refine an h (c:=.int .i64 n) ?_ (Rel.int _ _)
     rw [hx]
     simp [builtin,Builtin.len_,run_underlying e2,goInt]
    ·rename_i hk
     cases hs
     rw [hk] at e5
     obtain ⟨rfl,_⟩:=kE e5
     refine an h (c:=.int .i64 0) ?_ (Rel.int _ _)
     rw [hx]
     cases h0
     simp [builtin,Builtin.len_,run_underlying e2,goInt]
    ·rename_i id hk
     split at hs
     ·rename_i es hg
      cases hs
      rw [hk] at e5
      obtain ⟨rfl,_⟩:=kE e5
      cases h0 with
      | @map _ b hb=>
      obtain ⟨ay,clock,g1,g2,g3⟩:=h.g.obj id _ _ hg hb
      refine an h (c:=.int .i64 es.length) ?_ (Rel.int _ _)
      rw [hx]
      have fc:(getObj b).run E.P w=.ok (.map ay clock) w:=by simp [getObj,Sem.run,g1]
      simp [builtin,Builtin.len_,run_underlying e2,goInt,fc,g2.length]
     ·cases hs
    ·cases hs
   ·cases hs
  ·cases hs
 ·cases hs
theorem DV {b:Bool}:∀ {l:List AV} {x v:AV} {c:Value} {cs:List Value},Rel R w x c→aA R w l cs→EL x l=some v→∃ c',(cs.foldlM Builtin.max2 c).run E.P w=.ok c' w∧Rel R w v c'
 | [],x,v,c,cs,hr,hl,hv=>by
  cases hl
  simp only [EL] at hv
  cases hv
  exact ⟨c,rfl,hr⟩
 | y :: l,x,v,c,cs,hr,hl,hv=>by
  cases hl with
  | cons hy hl=>
  unfold EL at hv
  split at hv
  ·rename_i iw; cases iw
  ·rename_i k n k' m l' iw
   cases iw
   split at hv
   ·rename_i hk
    subst hk
    cases hr
    cases hy
    obtain ⟨c',h1,h2⟩:=DV (b:=b) (Rel.int k (if m > n then m else n)) hl hv
    refine ⟨c',?_,h2⟩
    simp only [List.foldlM_cons,Sem.run_bind,Builtin.max2,Sem.run_pure,Result.andThen_ok]
    exact h1
   ·cases hv
  ·cases hv
theorem yY {b:Bool}:∀ {l:List AV} {x v:AV} {c:Value} {cs:List Value},Rel R w x c→aA R w l cs→B2 x l=some v→∃ c',(cs.foldlM Builtin.min2 c).run E.P w=.ok c' w∧Rel R w v c'
 | [],x,v,c,cs,hr,hl,hv=>by
  cases hl
  simp only [B2] at hv
  cases hv
  exact ⟨c,rfl,hr⟩
 | y :: l,x,v,c,cs,hr,hl,hv=>by
  cases hl with
  | cons hy hl=>
  unfold B2 at hv
  split at hv
  ·rename_i iw; cases iw
  ·rename_i k n k' m l' iw
   cases iw
   split at hv
   ·rename_i hk
    subst hk
    cases hr
    cases hy
    obtain ⟨c',h1,h2⟩:=yY (b:=b) (Rel.int k (if m < n then m else n)) hl hv
    refine ⟨c',?_,h2⟩
    simp only [List.foldlM_cons,Sem.run_bind,Builtin.min2,Sem.run_pure,Result.andThen_ok]
    exact h1
   ·cases hv
  ·rename_i n m l' iw
   cases iw
   cases hr
   cases hy
   obtain ⟨c',h1,h2⟩:=yY (b:=b) (Rel.str (bif Op.bytesLess n m || n == m then n else m)) hl hv
   refine ⟨c',?_,h2⟩
   have e:(Builtin.min2 (.string ⟨⟨n⟩⟩) (.string ⟨⟨m⟩⟩)).run E.P w=.ok (.string ⟨⟨bif Op.bytesLess n m || n == m then n else m⟩⟩) w:=by
    simp only [Builtin.min2,Op.stringOp,Sem.run_bind,Sem.run_pure,Result.andThen_ok]
    show Result.andThen ((asBool _).run E.P w) _=_
    cases hb:(Op.bytesLess n m || n == m) <;> simp_all [asBool]
   simp only [List.foldlM_cons,Sem.run_bind,e,Result.andThen_ok]
   exact h1
  ·cases hv
theorem GF (h:aL E R w β s a) {args:Array Operand} {tys:Array TypeId} (ho:o.op=.call { callee:=.builtin .max,args:=args,argTypes:=tys }) {x v:AV} {l:List AV} (hl:jU E s.ab args.toList=some (x :: l)) (hm:EL x l=some v) :
  bn E R w β s a o (s.put o.dst (.v v)):=by
 have hr:=er h hl
 generalize hv:args.toList.map a.eval=vs at hr
 have hx:=cN (E:=E) (w:=w) ho vs hv
 cases hr with
 | cons h0 h1=>
 obtain ⟨c',k1,k2⟩:=DV (E:=E) (b:=true) h0 h1 hm
 refine an h (c:=c') ?_ k2
 rw [hx]
 simp [builtin,Builtin.max_,k1]
theorem GG (h:aL E R w β s a) {args:Array Operand} {tys:Array TypeId} (ho:o.op=.call { callee:=.builtin .min,args:=args,argTypes:=tys }) {x v:AV} {l:List AV} (hl:jU E s.ab args.toList=some (x :: l)) (hm:B2 x l=some v) :
  bn E R w β s a o (s.put o.dst (.v v)):=by
 have hr:=er h hl
 generalize hv:args.toList.map a.eval=vs at hr
 have hx:=cN (E:=E) (w:=w) ho vs hv
 cases hr with
 | cons h0 h1=>
 obtain ⟨c',k1,k2⟩:=yY (E:=E) (b:=true) h0 h1 hm
 refine an h (c:=c') ?_ k2
 rw [hx]
 simp [builtin,Builtin.min_,k1]
end ops
end Go.Am
