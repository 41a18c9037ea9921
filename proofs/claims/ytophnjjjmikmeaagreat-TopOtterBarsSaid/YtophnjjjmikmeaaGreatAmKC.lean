/- The abstract machine: what it does is what the model does: arithmetic,structs and slices that are built. -/
import Derived.Test.YtophnjjjmikmeaaGreatAmKB
import Derived.Laws.StructEq
import Derived.ChangeKeysEq
import Derived.Laws.Cover3
import Derived.Laws.Pointers
import Derived.Lib.SliceRun
import Derived.IntWalk
set_option linter.all false
namespace Go.Am
open Go
section ops
variable {E:Env} {R:af} {w:World} {β:Nat→Nat} {s:St} {a:Act} {o:Oper}
theorem size_bytes (l:List UInt8):(⟨⟨l⟩⟩:ByteArray).size=l.length:=rfl
theorem qz (l:List UInt8):(⟨⟨l⟩⟩:ByteArray).toList=l:=by rw [ByteArray.toList_eq]
theorem Ay (l r:List UInt8):((⟨⟨l⟩⟩:ByteArray)++⟨⟨r⟩⟩)=⟨⟨l++r⟩⟩:=by
 apply ByteArray.ext
 rw [ByteArray.data_append]
 simp
theorem Hu (op:BinOp) (t:TypeId) (x y:Operand) (k k':IntKind) (n m:Int):(eqGuard op t x y (.int k n) (.int k' m)).run E.P w=.ok () w:=by
 unfold eqGuard
 cases op <;> rfl
theorem Hv (op:BinOp) (t:TypeId) (x y:Operand) (n m:ByteArray):(eqGuard op t x y (.string n) (.string m)).run E.P w=.ok () w:=by
 unfold eqGuard
 cases op <;> rfl
theorem Ea (h:aQ E R w β s a) (op:BinOp) (t u:TypeId) (x y:Operand) (ho:o.op=.binOp op t x y u) {p q v:AV} (hx:bp E s.ae x=.v p) (hy:bp E s.ae y=.v q) (hv:BU op p q=some (true,v)) :
  bB E R w β s a o (s.put o.dst (.v v)):=by
 have rx:=aJ h x
 have ry:=aJ h y
 rw [hx] at rx
 rw [hy] at ry
 have cP:Rel R w p (a.eval x):=rx
 have nh:Rel R w q (a.eval y):=ry
 have key:∃ c,(do eqGuard op t x y (a.eval x) (a.eval y); binOp op t (a.eval x) (a.eval y):Sem Value).run E.P w=.ok c w∧Rel R w v c:=by
  generalize ea:a.eval x=xv at cP
  generalize Ty:a.eval y=yv at nh
  unfold BU at hv
  split at hv
  ·rename_i k n k' m
   cases cP
   cases nh
   simp only [Sem.run_bind,Hu,Result.andThen_ok]
   split at hv
   ·injection hv with hv
    injection hv with h1 h2
    subst h2
    have hm:=of_decide_eq_true h1
    have Mt:¬ m < 0:=by omega
    exact ⟨.int k (k.wrap (n * 2 ^ (min m.toNat k.bits))),by simp [binOp,Op.shift,Mt],.int _ _⟩
   ·injection hv with hv
    injection hv with h1 h2
    subst h2
    have hm:=of_decide_eq_true h1
    have Mt:¬ m < 0:=by omega
    exact ⟨.int k (n.fdiv (2 ^ (min m.toNat k.bits))),by simp [binOp,Op.shift,Mt],.int _ _⟩
   ·rename_i DB Ww
    split at hv
    ·rename_i D7
     subst D7
     split at hv
     ·cases hv; exact ⟨.int k (k.wrap (n+m)),by simp [binOp,Op.intArith],.int _ _⟩
     ·cases hv; exact ⟨.int k (k.wrap (n - m)),by simp [binOp,Op.intArith],.int _ _⟩
     ·cases hv; exact ⟨.int k (k.wrap (n * m)),by simp [binOp,Op.intArith],.int _ _⟩
     ·injection hv with hv
      injection hv with h1 h2
      subst h2
      have hm:¬ m=0:=by simpa using h1
      exact ⟨.int k (k.wrap (n.tdiv m)),by simp [binOp,Op.intDiv,hm],.int _ _⟩
     ·injection hv with hv
      injection hv with h1 h2
      subst h2
      have hm:¬ m=0:=by simpa using h1
      exact ⟨.int k (n.tmod m),by simp [binOp,Op.intDiv,hm],.int _ _⟩
     ·cases hv; exact ⟨.int k (Hg k n m),by simp [binOp,Op.intBits,Hg],.int _ _⟩
     ·cases hv; exact ⟨.int k (XF k n m),by simp [binOp,Op.intBits,XF],.int _ _⟩
     ·cases hv; exact ⟨.int k (Hh k n m),by simp [binOp,Op.intBits,Hh],.int _ _⟩
     ·cases hv; exact ⟨.bool (n == m),by simp [binOp,Op.intCmp],.bool _⟩
     ·cases hv; exact ⟨.bool (n != m),by simp [binOp,Op.intCmp],.bool _⟩
     ·cases hv; exact ⟨.bool (decide (n < m)),by simp [binOp,Op.intCmp],.bool _⟩
     ·cases hv; exact ⟨.bool (decide (n≤m)),by simp [binOp,Op.intCmp],.bool _⟩
     ·cases hv; exact ⟨.bool (decide (n > m)),by simp [binOp,Op.intCmp],.bool _⟩
     ·cases hv; exact ⟨.bool (decide (n≥m)),by simp [binOp,Op.intCmp],.bool _⟩
     ·cases hv
    ·cases hv
  ·rename_i l r
   cases cP
   cases nh
   simp only [Sem.run_bind,Hv,Result.andThen_ok]
   split at hv
   ·injection hv with hv
    injection hv with h1 h2
    subst h2
    have hm:=of_decide_eq_true h1
    refine ⟨.string ⟨⟨l++r⟩⟩,?_,.str _⟩
    have PW:¬ ((l.length+r.length:Nat):Int) > IntKind.i64.max:=by
     have:IntKind.i64.max=9223372036854775807:=by decide
     omega
    simp only [binOp,Op.stringOp,size_bytes,if_neg PW,Ay,Sem.run_pure]
   ·cases hv; exact ⟨.bool (l == r),by simp [binOp,Op.stringOp],.bool _⟩
   ·cases hv; exact ⟨.bool (!(l == r)),by simp [binOp,Op.stringOp],.bool _⟩
   ·cases hv; exact ⟨.bool (Op.bytesLess l r),by simp [binOp,Op.stringOp],.bool _⟩
   ·cases hv; exact ⟨.bool (Op.bytesLess l r || l == r),by simp [binOp,Op.stringOp],.bool _⟩
   ·cases hv; exact ⟨.bool (!(Op.bytesLess l r || l == r)),by simp [binOp,Op.stringOp],.bool _⟩
   ·cases hv; exact ⟨.bool (!(Op.bytesLess l r)),by simp [binOp,Op.stringOp],.bool _⟩
   ·cases hv
  ·cases hv
 obtain ⟨c,k1,k2⟩:=key
 refine ap h (c:=c) ?_ k2
 simp only [Sem.run_bind] at k1
 simp only [execOp,ho,Sem.run_bind,k1,Result.andThen_ok,Sem.run_pure]
theorem jQ {t:TypeId} {i:TypeInfo} {u:TypeDesc} (h1:E.P.info? t=some i) (h2:E.P.underlying t=some u) {off:Nat} {cs:List AV} {vs:List Value} {v:AV} (hr:aC R w cs vs) (h3:∀ x∈vs,x.oneCell'=true)
  (h:FV (jk u) off i.size cs=some v):∃ c,(part t ⟨vs⟩ off).run E.P w=.ok c w∧Rel R w v c:=by
 unfold FV at h
 cases ha:jk u with
 | true=>
  rw [ha] at h
  simp only [if_true] at h
  split at h
  ·rename_i l hl
   exact lL h1 h2 hr h3 (fun _=>⟨hl,h⟩) (fun e=>by rw [ha] at e; cases e)
  ·cases h
 | false=>
  rw [ha] at h
  simp only [Bool.false_eq_true,if_false] at h
  split at h
  ·rename_i l hl
   exact lL h1 h2 hr h3 (fun e=>by rw [ha] at e; cases e) (fun _=>⟨hl,h⟩)
  ·cases h
theorem B0 {ek:TypeId→EK} {d:Nat} (ih:∀ (t:TypeId) (a b:AV) (r:Bool) (x y:Value),kF (ek t) a b=some r→Rel R w a x→Rel R w b y→(Op.equalIn d t x y).run E.P w=.ok r w) {xs ys:List AV} {vs us:List Value}
  (hx:aC R w xs vs) (sj:∀ x∈vs,x.oneCell'=true) (hy:aC R w ys us) (Mu:∀ x∈us,x.oneCell'=true) :
  ∀ (fs:List Field) (l:PK) (r:Bool),DQ E.P ek fs=some l→sf l xs ys=some r→(Op.eqFields d ⟨vs⟩ ⟨us⟩ fs).run E.P w=.ok r w
 | [],l,r,hl,hr=>by
  simp [DQ] at hl
  subst hl
  simp [sf] at hr
  subst hr
  rfl
 | f :: fs,l,r,hl,hr=>by
  unfold DQ at hl
  split at hl
  ·cases hl
  ·rename_i hn
   split at hl
   ·rename_i i u l' h1 h2 h3
    cases hl
    unfold sf at hr
    split at hr
    ·rename_i a b ha hb
     split at hr
     ·rename_i p q hp hq
      cases hr
      obtain ⟨c,k1,k2⟩:=jQ h1 h2 hx sj ha
      obtain ⟨c',k3,k4⟩:=jQ h1 h2 hy Mu hb
      have cg : f.name ≠ "_" := by simpa using hn
      have he:=ih f.type a b p c c' hp k2 k4
      have vt:=B0 ih hx sj hy Mu fs l' q h3 hq
      simp only [Op.eqFields,cg,ne_eq,not_false_eq_true,if_true,Sem.run_bind,k1,k3,he,Result.andThen_ok]
      cases p with
      | true=>simp [vt]
      | false=>simp
     ·cases hr
    ·cases hr
   ·cases hl
theorem zl {ek:EK} {d:Nat} {e:TypeId} {i:TypeInfo} {u:TypeDesc} (h1:E.P.info? e=some i) (h2:E.P.underlying e=some u) (ih:∀ (a b:AV) (r:Bool) (x y:Value),kF ek a b=some r→Rel R w a x→Rel R w b y→(Op.equalIn d e x y).run E.P w=.ok r w) {xs ys:List AV} {vs us:List Value}
  (hx:aC R w xs vs) (sj:∀ x∈vs,x.oneCell'=true) (hy:aC R w ys us) (Mu:∀ x∈us,x.oneCell'=true) :
  ∀ (m k:Nat) (r:Bool),sf (vd i.size (jk u) ek m k) xs ys=some r→(Op.eqItems d e i.size ⟨vs⟩ ⟨us⟩ (List.range' k m)).run E.P w=.ok r w
 | 0,k,r,hr=>by
  simp [vd,sf] at hr
  subst hr
  rfl
 | m+1,k,r,hr=>by
  unfold vd sf at hr
  split at hr
  ·rename_i a b ha hb
   split at hr
   ·rename_i p q hp hq
    cases hr
    obtain ⟨c,k1,k2⟩:=jQ h1 h2 hx sj ha
    obtain ⟨c',k3,k4⟩:=jQ h1 h2 hy Mu hb
    have he:=ih a b p c c' hp k2 k4
    have vt:=zl h1 h2 ih hx sj hy Mu m (k+1) q hq
    simp only [List.range'_succ,Op.eqItems,Sem.run_bind,k1,k3,he,Result.andThen_ok]
    cases p with
    | true=>simpa using vt
    | false=>simp
   ·cases hr
  ·cases hr
theorem Az:∀ (n d:Nat),n≤d→∀ (t:TypeId) (a b:AV) (r:Bool) (x y:Value),kF (oK E.P n t) a b=some r→Rel R w a x→Rel R w b y→(Op.equalIn d t x y).run E.P w=.ok r w
 | 0,_,_,t,a,b,r,x,y,h,_,_=>by simp [oK,kF] at h
 | n+1,0,hd,_,_,_,_,_,_,_,_,_=>by omega
 | n+1,d+1,hd,t,a,b,r,x,y,h,hx,hy=>by
  unfold oK at h
  split at h
  ·rename_i hu
   unfold kF at h
   split at h
   all_goals (try contradiction)
   cases hx; cases hy; cases h
   exact run_equalIn_bool' w d t _ _ hu
  ·rename_i k hu
   unfold kF at h
   split at h
   all_goals (try contradiction)
   split at h
   ·rename_i hk
    subst hk
    cases hx; cases hy; cases h
    exact run_equalIn_int w d t _ k _ _ hu
   ·cases h
  ·rename_i hu
   unfold kF at h
   split at h
   all_goals (try contradiction)
   cases hx; cases hy; cases h
   rw [run_equalIn_string w d t _ _ hu,qz,qz]
  ·rename_i fs hu
   split at h
   ·simp [kF] at h
   ·rename_i hs
    split at h
    ·rename_i l hl
     unfold kF at h
     split at h
     all_goals (try contradiction)
     rename_i Ar xs ys hk
     cases hk
     cases hx with
     | agg hx sj=>
     cases hy with
     | agg hy Mu=>
     have hf:E.P.fieldsOf t=fs:=by simp [Program.fieldsOf,hu]
     rw [run_equalIn_struct w d t _ _ (by rw [hf]; exact hu) (by simpa using hs),hf]
     exact B0 (fun t a b r x y=>Az n d (by omega) t a b r x y) hx sj hy Mu fs.toList _ r hl h
    ·simp [kF] at h
  ·rename_i m e hu
   split at h
   ·rename_i i ud g1 g2
    unfold kF at h
    split at h
    all_goals (try contradiction)
    rename_i Ar xs ys hk
    cases hk
    cases hx with
    | agg hx sj=>
    cases hy with
    | agg hy Mu=>
    have mX:E.P.cellsOf e=i.size:=by simp [Program.cellsOf,g1]
    rw [run_equalIn_array (P:=E.P) w d _ _ hu g1,mX,List.range_eq_range']
    exact zl g1 g2 (fun a b r x y=>Az n d (by omega) e a b r x y) hx sj hy Mu m 0 r h
   ·simp [kF] at h
  ·simp [kF] at h
theorem jR {t:TypeId} {i:TI} (hi:E.ti t=some i) {p q:AV} {r:Bool} {x y:Value} (h:kF i.ek p q=some r) (hx:Rel R w p x) (hy:Rel R w q y) :
  (Op.equalIn 10000 t x y).run E.P w=.ok r w∧((∃ b c,x=.bool b∧y=.bool c)∨(∃ k n k' m,x=.int k n∧y=.int k' m)∨(∃ n m,x=.string n∧y=.string m)∨(∃ n m,x=.agg n∧y=.agg m∧E.P.eqGuardType E.P.depth t=false)):=by
 have zm:i.ek=s8 E.P t:=by
  have:=E.Hf t i hi
  unfold He at this
  split at this
  ·split at this
   ·cases this; rfl
   ·cases this
  ·cases this
 rw [zm] at h
 have hg:kF (oK E.P 6 t) p q=some r∧((∃ l,oK E.P 6 t=.st l)→E.P.eqGuardType E.P.depth t=false):=by
  unfold s8 at h
  split at h
  ·rename_i l hl
   split at h
   ·simp [kF] at h
   ·rename_i Hw
    exact ⟨by rw [hl]; exact h,fun _=>by simpa using Hw⟩
  ·rename_i k hk
   exact ⟨h,fun ⟨l,hl⟩=>absurd hl (hk l)⟩
 refine ⟨Az 6 10000 (by omega) t p q r x y hg.1 hx hy,?_⟩
 have h2:=hg.1
 have h3:=hg.2
 generalize oK E.P 6 t=k at h2 h3
 unfold kF at h2
 split at h2
 ·cases hx; cases hy; exact .inl ⟨_,_,rfl,rfl⟩
 ·cases hx; cases hy; exact .inr (.inl ⟨_,_,_,_,rfl,rfl⟩)
 ·cases hx; cases hy; exact .inr (.inr (.inl ⟨_,_,rfl,rfl⟩))
 ·cases hx; cases hy; exact .inr (.inr (.inr ⟨_,_,rfl,rfl,h3 ⟨_,rfl⟩⟩))
 ·cases h2
theorem Jg (h:aQ E R w β s a) (op:BinOp) (t u:TypeId) (x y:Operand) (ho:o.op=.binOp op t x y u) {p q:AV} {r:Bool} (hx:bp E s.ae x=.v p) (hy:bp E s.ae y=.v q) (hb:BU op p q=none) (hv:XH E op t p q=some r) :
  bB E R w β s a o (s.put o.dst (.v (.bool r))):=by
 have rx:=aJ h x
 have ry:=aJ h y
 rw [hx] at rx
 rw [hy] at ry
 have cP:Rel R w p (a.eval x):=rx
 have nh:Rel R w q (a.eval y):=ry
 have key:(do eqGuard op t x y (a.eval x) (a.eval y); binOp op t (a.eval x) (a.eval y):Sem Value).run E.P w=.ok (.bool r) w:=by
  generalize ea:a.eval x=xv at cP
  generalize Ty:a.eval y=yv at nh
  unfold XH at hv
  split at hv
  ·rename_i i hi
   obtain ⟨k1,k2⟩:=jR hi hv cP nh
   rcases k2 with ⟨b,c,rfl,rfl⟩ | ⟨k,n,k',m,rfl,rfl⟩ | ⟨n,m,rfl,rfl⟩ | ⟨n,m,rfl,rfl,hg⟩
   ·have Eb:(eqGuard .eql t x y (.bool b) (.bool c)).run E.P w=.ok () w:=rfl
    simp [Eb,binOp,Op.equal,Op.maxDepth,k1]
   ·cases cP; cases nh; simp [BU] at hb
    cases hk:i.ek <;> simp [hk,kF] at hv
    exact absurd hv.1 hb
   ·cases cP; cases nh; simp [BU] at hb
   ·simp only [Sem.run_bind,run_eqGuard_agg w _ t x y n m hg,Result.andThen_ok,run_eql_struct,k1]
  ·rename_i i hi
   split at hv
   ·rename_i r' iE
    cases hv
    obtain ⟨k1,k2⟩:=jR hi iE cP nh
    rcases k2 with ⟨b,c,rfl,rfl⟩ | ⟨k,n,k',m,rfl,rfl⟩ | ⟨n,m,rfl,rfl⟩ | ⟨n,m,rfl,rfl,hg⟩
    ·have Eb:(eqGuard .neq t x y (.bool b) (.bool c)).run E.P w=.ok () w:=rfl
     simp [Eb,binOp,Op.equal,Op.maxDepth,k1]
    ·cases cP; cases nh; simp [BU] at hb
     cases hk:i.ek <;> simp [hk,kF] at iE
     exact absurd iE.1 hb
    ·cases cP; cases nh; simp [BU] at hb
    ·simp only [Sem.run_bind,run_eqGuard_agg w _ t x y n m hg,Result.andThen_ok,run_neq_struct,k1]
   ·cases hv
  ·cases hv
 refine ap h (c:=.bool r) ?_ (.bool r)
 simp only [Sem.run_bind] at key
 simp only [execOp,ho,Sem.run_bind,key,Result.andThen_ok,Sem.run_pure]
theorem B1 {p:AV} {r:Bool} {x:Value} (hv:Mn p=some r) (hx:Rel R w p x):(Ws p=true∧∃ a n c,x=.slice a n c∧a.isNone=r)∨(Ws p=false∧∃ a,x=.pointer a∧a.isNone=r):=by
 unfold Mn at hv
 split at hv
 ·cases hv
  cases hx with
  | iC=>exact .inl ⟨rfl,_,_,_,rfl,rfl⟩
  | list _ _ _ hk=>exact hk.elim
 ·cases hv
  cases hx with
  | list _ _ _ _=>exact .inl ⟨rfl,_,_,_,rfl,rfl⟩
 ·cases hv
  cases hx with
  | list _ _ _ _=>exact .inl ⟨rfl,_,_,_,rfl,rfl⟩
 ·cases hv
  cases hx with
  | iy _ _=>exact .inl ⟨rfl,_,_,_,rfl,rfl⟩
 ·cases hv
  cases hx with
  | cT _ _ _=>exact .inl ⟨rfl,_,_,_,rfl,rfl⟩
 ·cases hv
  cases hx
  exact .inr ⟨rfl,_,rfl,rfl⟩
 ·cases hv
  cases hx with
  | ptr _=>exact .inr ⟨rfl,_,rfl,rfl⟩
 ·cases hv
  cases hx with
  | ep _=>exact .inr ⟨rfl,_,rfl,rfl⟩
 ·cases hv
theorem vu {p:AV} {b:Bool} {x:Value} (hv:DX p=some b) (hx:Rel R w p x):(b=true∧x=.slice none 0 0)∨(b=false∧x=.pointer none):=by
 unfold DX at hv
 split at hv
 ·cases hv
  cases hx with
  | iC=>exact .inl ⟨rfl,rfl⟩
  | list _ _ _ hk=>exact hk.elim
 ·cases hv
  cases hx
  exact .inr ⟨rfl,rfl⟩
 ·cases hv
theorem Mw {P:Program} {t:TypeId} (h:PO P t=true):∃ e,P.underlying t=some (.slice e):=by
 unfold PO at h
 split at h
 ·rename_i e he; exact ⟨e,he⟩
 ·cases h
theorem Mx {P:Program} {t:TypeId} (h:PP P t=true):P.underlying t=some (.pointer (P.pointee t)):=by
 unfold PP at h
 split at h
 ·rename_i e he
  unfold Program.pointee
  rw [he]
 ·cases h
theorem Hx (h:aQ E R w β s a) (op:BinOp) (t u:TypeId) (x y:Operand) (ho:o.op=.binOp op t x y u) {p q:AV} {r:Bool} (hx:bp E s.ae x=.v p) (hy:bp E s.ae y=.v q) (hv:PQ E op t p q=some r) :
  bB E R w β s a o (s.put o.dst (.v (.bool r))):=by
 have rx:=aJ h x
 rw [hx] at rx
 have ry:=aJ h y
 rw [hy] at ry
 have cP:Rel R w p (a.eval x):=rx
 have nh:Rel R w q (a.eval y):=ry
 have key:(do eqGuard op t x y (a.eval x) (a.eval y); binOp op t (a.eval x) (a.eval y):Sem Value).run E.P w=.ok (.bool r) w:=by
  generalize ea:a.eval x=xv at cP
  generalize Ty:a.eval y=yv at nh
  have two:∀ {r0:Bool},Mn p=some r0→td E.P t p q=true→(∃ a n c e,xv=.slice a n c∧yv=.slice none 0 0∧a.isNone=r0∧E.P.underlying t=some (.slice e))∨(∃ a,xv=.pointer a∧yv=.pointer none∧a.isNone=r0∧E.P.underlying t=some (.pointer (E.P.pointee t))):=by
   intro r0 h1 h2
   unfold td at h2
   split at h2
   ·rename_i hb
    rw [Bool.and_eq_true] at h2
    obtain ⟨e,he⟩:=Mw h2.2
    rcases vu hb nh with ⟨_,rfl⟩ | ⟨hf,_⟩
    ·rcases B1 h1 cP with ⟨_,a,n,c,rfl,hn⟩ | ⟨hs,_⟩
     ·exact .inl ⟨a,n,c,e,rfl,rfl,hn,he⟩
     ·rw [h2.1] at hs; cases hs
    ·cases hf
   ·rename_i hb
    rw [Bool.and_eq_true] at h2
    have hp:=Mx h2.2
    rcases vu hb nh with ⟨hf,_⟩ | ⟨_,rfl⟩
    ·cases hf
    ·rcases B1 h1 cP with ⟨hs,_⟩ | ⟨_,a,rfl,hn⟩
     ·rw [hs] at h2; cases h2.1
     ·exact .inr ⟨a,rfl,rfl,hn,hp⟩
   ·cases h2
  unfold PQ at hv
  split at hv
  ·rename_i r0 h1
   obtain ⟨h2,h3⟩:td E.P t p q=true∧_:=by
    cases h2:td E.P t p q with
    | false=>rw [h2] at hv; cases hv
    | true=>rw [h2] at hv; exact ⟨rfl,Option.some.inj hv⟩
   subst h3
   rcases two h1 h2 with ⟨a,n,c,e,rfl,rfl,hn,he⟩ | ⟨a,rfl,rfl,hn,hp⟩
   ·have hg:(eqGuard .eql t x y (.slice a n c) (.slice none 0 0)).run E.P w=.ok () w:=rfl
    simp only [Sem.run_bind,hg,Result.andThen_ok,Lib.run_eql_slice_nil w t e a n c 0 0 he,hn]
   ·have hg:(eqGuard .eql t x y (.pointer a) (.pointer none)).run E.P w=.ok () w:=rfl
    simp only [Sem.run_bind,hg,Result.andThen_ok,run_eql_pointer_nil w t a hp,hn]
  ·rename_i r0 h1
   obtain ⟨h2,h3⟩:td E.P t p q=true∧_:=by
    cases h2:td E.P t p q with
    | false=>rw [h2] at hv; cases hv
    | true=>rw [h2] at hv; exact ⟨rfl,Option.some.inj hv⟩
   subst h3
   rcases two h1 h2 with ⟨a,n,c,e,rfl,rfl,hn,he⟩ | ⟨a,rfl,rfl,hn,hp⟩
   ·have hg:(eqGuard .neq t x y (.slice a n c) (.slice none 0 0)).run E.P w=.ok () w:=rfl
    simp only [Sem.run_bind,hg,Result.andThen_ok,run_neq_slice_nil w t e a n c he,hn]
   ·have hg:(eqGuard .neq t x y (.pointer a) (.pointer none)).run E.P w=.ok () w:=rfl
    simp only [Sem.run_bind,hg,Result.andThen_ok,run_neq_pointer_nil w t a hp,hn]
  ·cases hv
 refine ap h (c:=.bool r) ?_ (.bool r)
 simp only [Sem.run_bind] at key
 simp only [execOp,ho,Sem.run_bind,key,Result.andThen_ok,Sem.run_pure]
theorem Jh (h:aQ E R w β s a) (t:TypeId) (x:Operand) (ho:o.op=.unOp .not t x) {b:Bool} (hx:bp E s.ae x=.v (.bool b)):bB E R w β s a o (s.put o.dst (.v (.bool (!b)))):=by
 have rx:=aJ h x
 rw [hx] at rx
 have cP:Rel R w (.bool b) (a.eval x):=rx
 generalize ea:a.eval x=xv at cP
 cases cP
 refine ap h (c:=.bool (!b)) ?_ (Rel.bool _)
 simp [execOp,ho,Op.unary,ea]
theorem Ji (h:aQ E R w β s a) (t:TypeId) (x:Operand) (ho:o.op=.unOp .neg t x) {k:IntKind} {n:Int} (hx:bp E s.ae x=.v (.int k n)):bB E R w β s a o (s.put o.dst (.v (.int k (k.wrap (0 - n))))):=by
 have rx:=aJ h x
 rw [hx] at rx
 have cP:Rel R w (.int k n) (a.eval x):=rx
 generalize ea:a.eval x=xv at cP
 cases cP
 refine ap h (c:=.int k (k.wrap (0 - n))) ?_ (Rel.int _ _)
 simp [execOp,ho,Op.unary,Op.intArith,ea]
theorem zn:∀ (us:List Value) (off j0:Nat) (cells:Array Value),off+j0+us.length≤cells.size →
  ((us.zipIdx j0).foldl (fun (cs:Array Value) (p:Value × Nat)=>cs.setIfInBounds (off+p.2) p.1) cells).toList=cells.toList.take (off+j0)++us++cells.toList.drop (off+j0+us.length)
 | [],off,j0,cells,_=>by simp
 | u :: us,off,j0,cells,h=>by
  have bK:off+j0 < cells.size:=by simp at h; omega
  have ih:=zn us off (j0+1) (cells.setIfInBounds (off+j0) u) (by simp at h ⊢; omega)
  simp only [List.zipIdx_cons,List.foldl_cons]
  rw [ih]
  have e:=list_seg_step cells.toList (off+j0) u us (by simp at h ⊢; omega)
  simpa [Array.toList_setIfInBounds,Nat.add_assoc] using e
theorem nq (place:Nat→Option (Nat × Nat)):∀ {ps:List (Nat × AV)} {qs:List (Nat × Value)} {cells vv:List AV} {vs:List Value},
  aC R w (ps.map (·.2)) (qs.map (·.2))→ps.map (·.1)=qs.map (·.1)→aC R w cells vs→(∀ x∈vs,x.oneCell'=true)→tc place cells ps=some vv →
  ∃ us,Instr.fill place ⟨vs⟩ qs=some ⟨us⟩∧aC R w vv us∧∀ x∈us,x.oneCell'=true
 | [],qs,cells,vv,vs,h1,h2,h3,h4,h5=>by
  have:qs=[]:=by simpa using h2.symm
  subst this
  simp [tc] at h5
  subst h5
  exact ⟨vs,rfl,h3,h4⟩
 | (i,v) :: ps,[],cells,vv,vs,h1,h2,h3,h4,h5=>by simp at h2
 | (i,v) :: ps,(j,c) :: qs,cells,vv,vs,h1,h2,h3,h4,h5=>by
  simp only [List.map_cons,List.cons.injEq] at h2
  obtain ⟨rfl,h2⟩:=h2
  cases h1 with
  | cons hr h1=>
  unfold tc at h5
  split at h5
  ·cases h5
  ·rename_i off sz hp
   split at h5
   ·rename_i dO
    simp only [Bool.and_eq_true] at dO
    obtain ⟨⟨Hs,hlen⟩,hle⟩:=dO
    have hlen:=Nat.eq_of_beq_eq_true hlen
    have hle:=Nat.le_of_ble_eq_true hle
    obtain ⟨c1,c2⟩:=Rel.cells hr Hs
    have BN:c.cells.toList.length=sz:=by rw [← c1.length]; exact hlen
    have hb:off+v.cells.length≤cells.length:=by omega
    obtain ⟨us,u1,u2,u3⟩:=nq place h1 h2 (h3.aY c1 hb) (iD h4 c2) h5
    refine ⟨us,?_,u2,u3⟩
    have dx:c.cells.size=sz:=by simpa using BN
    have DC:vs.length=cells.length:=h3.length.symm
    have zo:c.cells.zipIdx.foldl (fun (cs:Array Value) (x:Value × Nat)=>cs.setIfInBounds (off+x.2) x.1) ⟨vs⟩=⟨vs.take off++c.cells.toList++vs.drop (off+c.cells.toList.length)⟩:=by
     apply Array.ext'
     rw [← Array.foldl_toList,Array.toList_zipIdx]
     have:=zn c.cells.toList off 0 ⟨vs⟩ (by simp only [List.size_toArray]; omega)
     simpa using this
    have bH:(c.cells.size≠sz || decide (off+c.cells.size > (⟨vs⟩:Array Value).size))=false:=by
     have DB:decide (c.cells.size≠sz)=false:=by simp [dx]
     have Ww:decide (off+c.cells.size > (⟨vs⟩:Array Value).size)=false:=by
      rw [decide_eq_false_iff_not,dx]
      show ¬ off+sz > vs.length
      omega
     rw [DB,Ww]
     rfl
    unfold Instr.fill
    simp only [hp,bH,Bool.false_eq_true,if_false]
    rw [← u1]
    exact congrArg (fun z=>Instr.fill place z qs) zo
   ·cases h5
theorem uN (h:aQ E R w β s a):∀ {l:List (Nat × Operand)} {ps:List (Nat × AV)},L4 E s.ae l=some ps →
  aC R w (ps.map (·.2)) ((l.map fun x=>(x.1,a.eval x.2)).map (·.2))∧ps.map (·.1)=(l.map fun x=>(x.1,a.eval x.2)).map (·.1)
 | [],ps,hl=>by simp [L4] at hl; subst hl; exact ⟨.nil,rfl⟩
 | (i,x) :: l,ps,hl=>by
  unfold L4 at hl
  split at hl
  ·rename_i v r h1 h2
   cases hl
   have hx:=aJ h x
   rw [h1] at hx
   obtain ⟨g1,g2⟩:=uN h h2
   exact ⟨.cons hx g1,by simpa using g2⟩
  ·cases hl
theorem Ec (h:aQ E R w β s a) (t:TypeId) (parts:Array (Nat × Operand)) (ho:o.op=.build t parts) {v:AV} (hv:mg E s t parts.toList=some v) :
  bB E R w β s a o (s.put o.dst (.v v)):=by
 unfold mg at hv
 split at hv
 ·rename_i i ps hi IQ
  split at hv
  ·rename_i z hz
   split at hv
   ·rename_i cs mX
    split at hv
    ·rename_i Aw
     cases hv
     simp only [Bool.and_eq_true] at Aw
     obtain ⟨Aw,lM⟩:=Aw
     obtain ⟨fx,u,e1,e2,e3,e4,e5,e6⟩:=bR E hi
     rw [hz] at e6
     obtain ⟨zc,lD,BO⟩:=cI e6
     obtain ⟨p1,p2⟩:=uN h IQ
     obtain ⟨c1,c2⟩:=Rel.cells (BO R w) lM
     have PX:(parts.map fun (x:Nat × Operand)=>(x.1,a.eval x.2)).toList=parts.toList.map fun x=>(x.1,a.eval x.2):=by simp
     have key:∃ us,E.P.built t (parts.toList.map fun x=>(x.1,a.eval x.2))=some ⟨us⟩∧aC R w cs us∧∀ x∈us,x.oneCell'=true:=by
      cases u <;> simp only [jk] at e4 <;> first | (rw [Aw] at e4; cases e4; done) | skip
      ·rename_i n e
       simp only [oJ] at e5
       split at e5
       ·rename_i ie ue f1 f2
        injection e5 with e5
        rw [← e5] at mX
        obtain ⟨us,u1,u2,u3⟩:=nq (R:=R) (w:=w) _ p1 p2 c1 c2 mX
        refine ⟨us,?_,u2,u3⟩
        unfold Program.built
        simp only [e1,e2,lD,f1]
        rw [← u1]
        rfl
       ·cases e5
      ·rename_i fs
       simp only [oJ] at e5
       split at e5
       ·rename_i l hl
        injection e5 with e5
        rw [← e5] at mX
        obtain ⟨us,u1,u2,u3⟩:=nq (R:=R) (w:=w) _ p1 p2 c1 c2 mX
        refine ⟨us,?_,u2,u3⟩
        unfold Program.built
        simp only [e1,e2,lD,mP hl]
        rw [← u1]
        have My:placeOf (.st l)=fun j=>(l.map fun x=>(x.1,x.2.1)).toArray[j]?:=by
         funext j
         simp only [placeOf,aG,List.getElem?_toArray,List.getElem?_map]
         cases l[j]? <;> rfl
        rw [My]
       ·cases e5
     obtain ⟨us,u1,u2,u3⟩:=key
     refine ap h (c:=.agg ⟨us⟩) ?_ (Rel.agg u2 u3)
     have ba:=run_build (P:=E.P) w t (parts.map fun (x:Nat × Operand)=>(x.1,a.eval x.2)) ⟨us⟩ (by rw [PX]; exact u1)
     simp only [execOp,ho,Sem.run_bind,ba,Result.andThen_ok,Sem.run_pure]
    ·cases hv
   ·cases hv
  ·cases hv
 ·cases hv
end ops
end Go.Am
namespace Go.Am
open Go
theorem b7 (l r:List AV):ar (l++r)=ar l++ar r:=by
 induction l with
 | nil=>rfl
 | cons e l ih=>simp [ar,ih]
theorem cG {sz:Nat} {es:List AV} (h:fq sz es):(ar es).length=es.length * sz:=by
 induction es with
 | nil=>simp [ar]
 | cons e es ih=>
  have h1:=(h e (by simp)).1
  have:=ih (fun x hx=>h x (by simp [hx]))
  simp only [ar,List.length_append,this,h1,List.length_cons,Nat.add_mul]
  omega
section rel
variable {R:af} {w:World}
theorem jS {b sz:Nat}:∀ {es:List AV} {o:Nat},fq sz es→dZ R w b o (ar es)→fM R w b o sz es
 | [],_,_,_=>.nil
 | e :: es,o,h,hc=>by
  obtain ⟨h1,h2,h3⟩:=h e (by simp)
  obtain ⟨vs,k1,k2,k3,k4⟩:=hc.get
  have hd:=hc.drop sz
  have Uh:(ar (e :: es)).drop sz=ar es:=by simp only [ar]; rw [← h1,List.drop_left]
  have Jj:(ar (e :: es)).take sz=e.cells:=by simp only [ar]; rw [← h1,List.take_left]
  rw [Uh] at hd
  refine .cons h1 h2 h3 ?_ (jS (fun x hx=>h x (by simp [hx])) hd)
  have kt:=k1.take sz
  rw [Jj] at kt
  refine .make kt (fun v hv=>k2 v (List.mem_of_mem_take hv)) (fun j v hv=>k3 j v ?_) (fun j hj=>k4 j ?_)
  ·rw [List.getElem?_take] at hv
   split at hv
   ·exact hv
   ·cases hv
  ·simp only [ar,List.length_append]
   omega
theorem vw {b sz:Nat}:∀ {es:List AV} {o:Nat},fM R w b o sz es→fq sz es∧∃ vs,aC R w (ar es) vs∧(∀ v∈vs,v.oneCell'=true)∧(∀ j v,vs[j]?=some v→w.cell? ⟨b,o+j,none⟩=some v)∧∀ j,j < es.length * sz→R.I b (o+j)
 | [],o,_=>⟨fun e he=>by simp at he,[],.nil,by simp,by simp,by simp⟩
 | e :: es,o,h=>by
  cases h with
  | cons hl ht hk hc t=>
   obtain ⟨g0,vs,g1,g2,g3,g4⟩:=vw t
   obtain ⟨us,f1,f2,f3,f4⟩:=hc.get
   have hlen:us.length=sz:=by rw [← f1.length,hl]
   refine ⟨fun x hx=>?_,us++vs,f1.append g1,fun v hv=>?_,fun j v hv=>?_,fun j hj=>?_⟩
   ·rcases List.mem_cons.1 hx with rfl | hx
    ·exact ⟨hl,ht,hk⟩
    ·exact g0 x hx
   ·rcases List.mem_append.1 hv with hv | hv
    ·exact f2 v hv
    ·exact g2 v hv
   ·by_cases hj:j < sz
    ·rw [List.getElem?_append_left (by omega)] at hv
     exact f3 j v hv
    ·rw [List.getElem?_append_right (by omega),hlen] at hv
     have:=g3 _ v hv
     rwa [show o+sz+(j - sz)=o+j by omega] at this
   ·by_cases DD:j < sz
    ·exact f4 j (by omega)
    ·have:=g4 (j - sz) (by simp only [List.length_cons,Nat.add_mul] at hj; omega)
     rwa [show o+sz+(j - sz)=o+j by omega] at this
theorem sk {b sz:Nat}:∀ (n:Nat) {es:List AV} {o:Nat},fM R w b o sz es→fM R w b (o+n * sz) sz (es.drop n)
 | 0,es,o,h=>by simpa using h
 | n+1,[],o,h=>by simpa using fM.nil
 | n+1,e :: es,o,h=>by
  cases h with
  | cons hl ht hk hc t=>
   have:=sk n t
   rw [show o+sz+n * sz=o+(n+1) * sz by rw [Nat.add_mul]; omega] at this
   simpa using this
theorem sm {b sz:Nat}:∀ (n:Nat) {es:List AV} {o:Nat},fM R w b o sz es→fM R w b o sz (es.take n)
 | 0,es,o,h=>by simpa using fM.nil
 | n+1,[],o,h=>by simpa using fM.nil
 | n+1,e :: es,o,h=>by
  cases h with
  | cons hl ht hk hc t=>simpa using fM.cons hl ht hk hc (sm n t)
end rel
theorem dG {sz n:Nat} {z:AV} (h1:z.cells.length=sz) (h2:z.aN=true) (h3:z.closed=true):fq sz (List.replicate n z):=fun e he=>by
 rw [List.mem_replicate] at he
 rw [he.2]
 exact ⟨h1,h2,h3⟩
theorem vx {sz:Nat}:∀ {es:List AV} {i:Nat} {v:AV},fq sz es→i < es.length→v.cells.length=sz→ar (au es i v)=aY (ar es) (i * sz) v.cells
 | [],i,v,_,h,_=>by simp at h
 | e :: es,0,v,h,_,hv=>by
  have h1:=(h e (by simp)).1
  simp only [au,ar,Nat.zero_mul]
  rw [dA _ 0 _ (by simp; omega)]
  simp only [List.take_zero,List.nil_append,Nat.zero_add]
  rw [hv,← h1,List.drop_left]
 | e :: es,i+1,v,h,hi,hv=>by
  have h1:=(h e (by simp)).1
  have B2:fq sz es:=fun x hx=>h x (by simp [hx])
  have ih:=vx (i:=i) (v:=v) B2 (by simpa using hi) hv
  have bK:i < es.length:=by simpa using hi
  have hle:i * sz+sz≤es.length * sz:=by rw [← Nat.succ_mul]; exact Nat.mul_le_mul_right _ bK
  have hl:=cG B2
  simp only [au,ar]
  have e1:(i+1) * sz=e.cells.length+i * sz:=by rw [h1,Nat.succ_mul]; omega
  have e2:List.take (e.cells.length+i * sz) e.cells=e.cells:=List.take_of_length_le (by omega)
  rw [ih,dA _ _ _ (by omega),e1,dA _ _ _ (by simp only [List.length_append]; omega)]
  rw [List.take_append,e2,Nat.add_assoc,List.drop_append,List.drop_of_length_le (by omega:e.cells.length≤e.cells.length+(i * sz+v.cells.length))]
  simp [Nat.add_sub_cancel_left]
theorem zp {sz:Nat} {es:List AV} {i:Nat} {v:AV} (h:fq sz es) (h1:v.cells.length=sz) (h2:v.aN=true) (h3:v.closed=true):fq sz (au es i v):=fun e he=>by
 rw [dw] at he
 rcases List.mem_or_eq_of_mem_set he with he | rfl
 ·exact h e he
 ·exact ⟨h1,h2,h3⟩
theorem th {sz:Nat}:∀ {ps:List (Nat × AV)} {es es':List AV},BV sz es ps=some es'→fq sz es →
  tc (fun i=>some (i * sz,sz)) (ar es) ps=some (ar es')∧fq sz es'∧es'.length=es.length
 | [],es,es',h,hk=>by simp [BV] at h; subst h; exact ⟨rfl,hk,rfl⟩
 | (i,v) :: ps,es,es',h,hk=>by
  unfold BV at h
  split at h
  ·rename_i hc
   simp only [Bool.and_eq_true] at hc
   obtain ⟨⟨⟨hn,hl⟩,hi⟩,yx⟩:=hc
   have ZX:=Nat.eq_of_beq_eq_true hl
   have pw:=Nat.le_of_ble_eq_true hi
   obtain ⟨g1,g2,g3⟩:=th h (zp hk ZX hn yx)
   refine ⟨?_,g2,by simpa using g3⟩
   unfold tc
   have hle:Nat.ble (i * sz+sz) (ar es).length=true:=by
    apply Nat.ble_eq_true_of_le
    rw [cG hk,← Nat.succ_mul]
    exact Nat.mul_le_mul_right _ pw
   simp only [hn,hl,hle,Bool.and_self,if_true]
   rw [← vx hk (by omega) ZX]
   exact g1
  ·cases h
section ops
variable {E:Env} {R:af} {w:World} {β:Nat→Nat} {s:St} {a:Act} {o:Oper}
def af.Tz (R:af) (b:Nat):af:=⟨fun b' o=>R.I b' o∨b'=b,R.obj⟩
theorem AA (wf:∀ b o,R.I b o→b < w.heap.size) (x:Obj):Ext R w (R.Tz w.heap.size) (w.alloc x):=
 ⟨fun _ _ h=>.inl h,fun b o h=>bC (heap_alloc_old w x b (wf b o h)) o,fun _ ro h=>⟨ro,h,bQ.refl ro⟩,.old fun b hb=>heap_alloc_old w x b hb⟩
theorem aQ.Tz (h:aQ E R w β s a) (x:Obj):aQ E (R.Tz w.heap.size) (w.alloc x) β s a:=
 h.bY (AA h.g.wf x) rfl (fun b hb=>heap_alloc_old w x b (h.cU hb)) (fun b o hb hi=>by
  rcases hi with hi | hi
  ·exact hi
  ·have:=h.cU hb
   omega) (fun b o hi=>by
  rcases hi with hi | hi
  ·have:=h.g.wf b o hi
   simp
   omega
  ·simp
   omega)
theorem Jk (h:aQ E R w β s a) (x:Obj):Step R w β s.boxes (R.Tz w.heap.size) (w.alloc x) β s.boxes:=
 ⟨AA h.g.wf x,rfl,rfl,rfl,by simp,fun b hb _=>heap_alloc_old w x b hb,fun _ _ ho=>ho,fun b o hi hb _=>by
  rcases hi with hi | hi
  ·exact hi
  ·omega⟩
theorem nr (z:Array Value):∀ (n:Nat),(((Array.range (n * z.size)).map fun i=>z[i % z.size]!)).toList=(List.replicate n z.toList).flatten
 | 0=>by simp
 | n+1=>by
  have ih:=nr z n
  simp only [Array.toList_map,Array.toList_range] at ih ⊢
  rw [Nat.add_mul,Nat.one_mul,List.range_add,List.map_append,ih,List.replicate_succ',List.flatten_append]
  congr 1
  simp only [List.map_map,List.flatten_cons,List.flatten_nil,List.append_nil]
  apply List.ext_getElem?
  intro i
  by_cases hi:i < z.size
  ·simp only [List.getElem?_map,List.getElem?_range hi,Option.map_some,Function.comp_apply]
   rw [Nat.mul_comm n,Nat.mul_add_mod,Nat.mod_eq_of_lt hi]
   simp [hi]
  ·rw [List.getElem?_eq_none (by simp; omega),List.getElem?_eq_none (by simp; omega)]
theorem lN {z:AV} {c:Value} (hr:Rel R w z c) (hn:z.aN=true):∀ (n:Nat),aC R w (ar (List.replicate n z)) (List.replicate n c.cells.toList).flatten∧∀ v∈(List.replicate n c.cells.toList).flatten,v.oneCell'=true
 | 0=>by simp [ar]; exact .nil
 | n+1=>by
  obtain ⟨c1,c2⟩:=Rel.cells hr hn
  obtain ⟨h1,h2⟩:=lN hr hn n
  refine ⟨?_,fun v hv=>?_⟩
  ·simpa [List.replicate_succ,ar] using c1.append h1
  ·simp only [List.replicate_succ,List.flatten_cons,List.mem_append] at hv
   rcases hv with hv | hv
   ·exact c2 v hv
   ·exact h2 v hv
theorem so:∀ {ps:List (Nat × AV)} {us:List Value},aC R w (ps.map (·.2)) us→aC R w ((za ps).map (·.2)) us
 | [],_,h=>h
 | (_,_) :: _,_,.cons h t=>.cons h.gq (so t)
theorem sq:∀ (ps:List (Nat × AV)),(za ps).map (·.1)=ps.map (·.1)
 | []=>rfl
 | (i,v) :: l=>by simp [za,sq l]
theorem ib (h:aQ E R w β s a) (t:TypeId) (len:Nat) (parts:Array (Nat × Operand)) (ho:o.op=.buildSlice t len parts) {v:AV} (hv:b8 E s t len parts.toList=some v) :
  ∃ es esz us elem,v=.list .full esz es∧(execOp a.eval o).run E.P w=.ok (.value (.slice (some ⟨w.heap.size,0,none⟩) len len)) (w.alloc (.cells ⟨us⟩ elem))∧fq esz es∧es.length=len∧aC R w (ar es) us∧(∀ x∈us,x.oneCell'=true)∧∃ i ag mQ z,E.ti t=some i∧i.k=.sl elem esz ag mQ z:=by
 unfold b8 at hv
 split at hv
 ·rename_i i ps hi IQ
  split at hv
  ·rename_i elem esz ag mQ z hk
   split at hv
   ·rename_i hc
    simp only [Bool.and_eq_true] at hc
    obtain ⟨⟨⟨⟨Ed,Ui⟩,Uj⟩,hz4⟩,hz5⟩:=hc
    have Ed:=Nat.eq_of_beq_eq_true Ed
    have Ui:=Nat.le_of_ble_eq_true Ui
    have Uj:=Nat.le_of_ble_eq_true Uj
    split at hv
    ·rename_i es B2
     cases hv
     obtain ⟨fx,u,e1,e2,e3,e4,e5,e6⟩:=bR E hi
     rw [hk] at e5
     obtain ⟨ie,ue,rfl,f1,f2,f3,f4,f5,f6⟩:=cE e5
     obtain ⟨zc,lD,BO⟩:=cI f6
     have O1:=BO R w
     obtain ⟨c1,c2⟩:=Rel.cells O1 hz4
     have mX:zc.cells.size=esz:=by rw [← Ed,c1.length]; simp
     obtain ⟨p1,p2⟩:=uN h IQ
     obtain ⟨z1,z2⟩:=lN O1 hz4 len
     obtain ⟨g1,g2,g3⟩:=th B2 (dG Ed hz4 hz5)
     obtain ⟨us,u1,u2,u3⟩:=nq (R:=R) (w:=w) _ (so p1) ((sq ps).trans p2) z1 z2 g1
     have PX:(parts.map fun (x:Nat × Operand)=>(x.1,a.eval x.2)).toList=parts.toList.map fun x=>(x.1,a.eval x.2):=by simp
     have jI:((Array.range (len * esz)).map fun i=>zc.cells[i % zc.cells.size]!)=⟨(List.replicate len zc.cells.toList).flatten⟩:=by
      apply Array.ext'
      rw [← mX]
      exact nr zc.cells len
     have hlen:es.length=len:=by simpa using g3
     have ba:(Instr.buildSlice t len (parts.map fun (x:Nat × Operand)=>(x.1,a.eval x.2))).run E.P w=.ok (.slice (some ⟨w.heap.size,0,none⟩) len len) (w.alloc (.cells ⟨us⟩ elem)):=by
      have Hw:¬ len * esz > 2 ^ 24:=by omega
      by_cases h0:len * esz=0
      ·have r7:len=0:=by
        rcases Nat.mul_eq_zero.1 h0 with h0 | h0 <;> omega
       subst r7
       have XM:Instr.fill (fun i=>some (i * esz,esz)) #[] (parts.toList.map fun x=>(x.1,a.eval x.2))=some ⟨us⟩:=by simpa using u1
       simp only [Instr.buildSlice,Sem.run_bind,run_underlying e2,Result.andThen_ok,run_sizeOf w f1,f2]
       simp only [Nat.zero_mul,gt_iff_lt,Nat.not_lt_zero,if_false,if_true,Sem.run_bind,Sem.run_pure,Result.andThen_ok,PX]
       have B3:∀ f:Nat→Value,Array.map f (Array.range 0)=#[]:=fun f=>by simp
       simp only [B3,XM,newRow,Sem.run_bind,run_newObj,Result.andThen_ok,Sem.run_pure]
       rfl
      ·simp only [Instr.buildSlice,Sem.run_bind,run_underlying e2,Result.andThen_ok,run_sizeOf w f1,f2]
       rw [if_neg Hw,if_neg h0]
       simp only [Sem.run_bind,Sem.run_pure,Result.andThen_ok,gw w f1 lD,PX,jI,u1,newRow,run_newObj]
       rfl
     exact ⟨es,esz,us,elem,rfl,by simp only [execOp,ho,Sem.run_bind,ba,Result.andThen_ok,Sem.run_pure],g2,hlen,u2,u3,i,ag,mQ,_,hi,hk⟩
    ·cases hv
   ·cases hv
  ·cases hv
 ·cases hv
theorem ui (h:aQ E R w β s a) (t:TypeId) (len:Nat) (parts:Array (Nat × Operand)) (ho:o.op=.buildSlice t len parts) {cs:List AV} (hv:jG E s t len parts.toList=some cs) :
  ∃ esz us elem,(execOp a.eval o).run E.P w=.ok (.value (.slice (some ⟨w.heap.size,0,none⟩) len len)) (w.alloc (.cells ⟨us⟩ elem))∧aC R w cs us∧(∀ x∈us,x.oneCell'=true)∧∃ i ag mQ z,E.ti t=some i∧i.k=.sl elem esz ag mQ z:=by
 unfold jG at hv
 split at hv
 ·rename_i i ps hi IQ
  split at hv
  ·rename_i elem esz ag mQ z hk
   split at hv
   ·rename_i hc
    simp only [Bool.and_eq_true] at hc
    obtain ⟨⟨⟨Ed,Ui⟩,Uj⟩,hz4⟩:=hc
    have Ed:=Nat.eq_of_beq_eq_true Ed
    have Ui:=Nat.le_of_ble_eq_true Ui
    have Uj:=Nat.le_of_ble_eq_true Uj
    ·have g1:=hv
     obtain ⟨fx,u,e1,e2,e3,e4,e5,e6⟩:=bR E hi
     rw [hk] at e5
     obtain ⟨ie,ue,rfl,f1,f2,f3,f4,f5,f6⟩:=cE e5
     obtain ⟨zc,lD,BO⟩:=cI f6
     have O1:=BO R w
     obtain ⟨c1,c2⟩:=Rel.cells O1 hz4
     have mX:zc.cells.size=esz:=by rw [← Ed,c1.length]; simp
     obtain ⟨p1,p2⟩:=uN h IQ
     obtain ⟨z1,z2⟩:=lN O1 hz4 len
     obtain ⟨us,u1,u2,u3⟩:=nq (R:=R) (w:=w) _ (so p1) ((sq ps).trans p2) z1 z2 g1
     have PX:(parts.map fun (x:Nat × Operand)=>(x.1,a.eval x.2)).toList=parts.toList.map fun x=>(x.1,a.eval x.2):=by simp
     have jI:((Array.range (len * esz)).map fun i=>zc.cells[i % zc.cells.size]!)=⟨(List.replicate len zc.cells.toList).flatten⟩:=by
      apply Array.ext'
      rw [← mX]
      exact nr zc.cells len
     have ba:(Instr.buildSlice t len (parts.map fun (x:Nat × Operand)=>(x.1,a.eval x.2))).run E.P w=.ok (.slice (some ⟨w.heap.size,0,none⟩) len len) (w.alloc (.cells ⟨us⟩ elem)):=by
      have Hw:¬ len * esz > 2 ^ 24:=by omega
      by_cases h0:len * esz=0
      ·have r7:len=0:=by
        rcases Nat.mul_eq_zero.1 h0 with h0 | h0 <;> omega
       subst r7
       have XM:Instr.fill (fun i=>some (i * esz,esz)) #[] (parts.toList.map fun x=>(x.1,a.eval x.2))=some ⟨us⟩:=by simpa using u1
       simp only [Instr.buildSlice,Sem.run_bind,run_underlying e2,Result.andThen_ok,run_sizeOf w f1,f2]
       simp only [Nat.zero_mul,gt_iff_lt,Nat.not_lt_zero,if_false,if_true,Sem.run_bind,Sem.run_pure,Result.andThen_ok,PX]
       have B3:∀ f:Nat→Value,Array.map f (Array.range 0)=#[]:=fun f=>by simp
       simp only [B3,XM,newRow,Sem.run_bind,run_newObj,Result.andThen_ok,Sem.run_pure]
       rfl
      ·simp only [Instr.buildSlice,Sem.run_bind,run_underlying e2,Result.andThen_ok,run_sizeOf w f1,f2]
       rw [if_neg Hw,if_neg h0]
       simp only [Sem.run_bind,Sem.run_pure,Result.andThen_ok,gw w f1 lD,PX,jI,u1,newRow,run_newObj]
       rfl
     exact ⟨esz,us,elem,by simp only [execOp,ho,Sem.run_bind,ba,Result.andThen_ok,Sem.run_pure],u2,u3,i,ag,mQ,_,hi,hk⟩
   ·cases hv
  ·cases hv
 ·cases hv
theorem uj (h:aQ E R w β s a) (t:TypeId) (len:Nat) (parts:Array (Nat × Operand)) (ho:o.op=.buildSlice t len parts) {v:AV} (hv:b8 E s t len parts.toList=some v) :
  bB E R w β s a o (s.put o.dst (.v v)):=by
 obtain ⟨es,esz,us,elem,rfl,ba,g2,hlen,u2,u3,_⟩:=ib h t len parts ho hv
 have e:=AA (R:=R) (w:=w) h.g.wf (.cells ⟨us⟩ elem)
 refine ⟨_,.slice (some ⟨w.heap.size,0,none⟩) len len,_,R.Tz w.heap.size,β,ba,.inl rfl,(h.Tz (.cells ⟨us⟩ elem)).put o.dst ?_,by rw [aS]; exact Jk h _⟩
 refine Rel.list (jS g2 (dZ.make (u2.mono e) u3 (fun j x hx=>?_) (fun j _=>.inr rfl))) hlen.symm (Nat.le_refl _) rfl
 rw [iV (heap_alloc_new w _)]
 simpa using hx
theorem sr (h:aQ E R w β s a) (t:TypeId) (len:Nat) (parts:Array (Nat × Operand)) (ho:o.op=.buildSlice t len parts) {cs:List AV} (hv:jG E s t len parts.toList=some cs) {i:TI} (hi:E.ti t=some i) {el:TypeId} {esz eb:Nat} {ag:Bool} {z:Option AV} (hk:i.k=.sl el esz ag eb z) :
  bB E R w β s a o ((s.df (.row cs el)).put o.dst (.v (.iy s.G.length 0 esz len len))):=by
 obtain ⟨PY,us,elem,ba,u2,u3,i',XN,TA,z',pw,gm⟩:=ui h t len parts ho hv
 rw [hi] at pw
 cases pw
 rw [hk] at gm
 cases gm
 have e:=fR (R:=R) (w:=w) h.g.wf (.cells ⟨us⟩ el) (.bw w.heap.size)
 have fP:fO (R.add (.bw w.heap.size)) (w.alloc (.cells ⟨us⟩ el)) (.row cs el) (.bw w.heap.size):=
  ⟨_,heap_alloc_new w _,u2.mono e,u3,fun o' hi=>by have:=h.g.wf _ _ hi; omega⟩
 exact ⟨_,_,_,R.add (.bw w.heap.size),β,ba,.inl rfl,(h.j6 _ _ _ (by exact fun _ h=>h) fP).put o.dst (x:=.v (.iy s.G.length 0 esz len len)) (Rel.iy (fS h _) (Nat.le_refl _)),by rw [aS]; exact cM h _ _ (by exact fun _ h=>h)⟩
theorem ss (h:aQ E R w β s a) (t:TypeId) (len:Nat) (parts:Array (Nat × Operand)) (ho:o.op=.buildSlice t len parts) {k:LK} {esz:Nat} {es:List AV} (hv:b8 E s t len parts.toList=some (.list k esz es)) {i:TI} (hi:E.ti t=some i) {el:TypeId} {a6 eb:Nat} {ag:Bool} {z:Option AV} (hk:i.k=.sl el a6 ag eb z) :
  bB E R w β s a o ((s.df (.row (ar es) el)).put o.dst (.v (.iy s.G.length 0 esz len len))):=by
 obtain ⟨es',PY,us,elem,Uk,ba,g2,hlen,u2,u3,i',XN,TA,z',pw,gm⟩:=ib h t len parts ho hv
 cases Uk
 rw [hi] at pw
 cases pw
 rw [hk] at gm
 cases gm
 have e:=fR (R:=R) (w:=w) h.g.wf (.cells ⟨us⟩ el) (.bw w.heap.size)
 have fP:fO (R.add (.bw w.heap.size)) (w.alloc (.cells ⟨us⟩ el)) (.row (ar es) el) (.bw w.heap.size):=
  ⟨_,heap_alloc_new w _,u2.mono e,u3,fun o' hi=>by have:=h.g.wf _ _ hi; omega⟩
 exact ⟨_,_,_,R.add (.bw w.heap.size),β,ba,.inl rfl,(h.j6 _ _ _ (by exact fun _ h=>h) fP).put o.dst (x:=.v (.iy s.G.length 0 esz len len)) (Rel.iy (fS h _) (Nat.le_refl _)),by rw [aS]; exact cM h _ _ (by exact fun _ h=>h)⟩
end ops
end Go.Am
namespace Go.Am
open Go
section ops
variable {E:Env} {R:af} {w:World} {β:Nat→Nat} {s:St} {a:Act} {o:Oper}
def PZ (R:af) (w:World) (β:Nat→Nat):Option SV→Option Value→Prop
 | none,none=>True
 | some x,some c=>mW R w β x c
 | _,_=>False
theorem zq {y y' n:Nat} {x:SV} {c:Value} (hx:mW R w β x c) (hb:vj y x=some (true,n)) (hy:y≤y') (code:BoundsCode) :
  (Instr.sliceBound c y' code).run E.P w=.ok n w∧n≤y:=by
 unfold vj at hb
 split at hb
 ·rename_i k m
  injection hb with hb
  injection hb with h1 h2
  subst h2
  obtain ⟨h0,h3⟩:=of_decide_eq_true h1
  have oM:Rel R w (.int k m) c:=hx
  cases oM
  exact ⟨run_sliceBound (P:=E.P) w k m y' code h0 (by omega),by omega⟩
 ·cases hb
theorem dm (ZY:Bool) {len cap l h:Nat} (BN:len≤cap) {lo hi:Option SV} {lv hv:Option Value} (hl:PZ R w β lo lv) (hh:PZ R w β hi hv) (hb:Ap len lo hi=some (true,l,h)) :
  (Instr.sliceBounds ZY len cap lv hv none).run E.P w=.ok (l,h,cap) w∧l≤h∧h≤len:=by
 unfold Ap at hb
 split at hb
 ·cases hb
 ·rename_i c1 h' iP
  split at hb
  ·cases hb
  ·rename_i c2 l' P0
   injection hb with hb
   injection hb with hc hb
   injection hb with e1 e2
   subst e1; subst e2
   simp only [Bool.and_eq_true] at hc
   obtain ⟨rfl,rfl⟩:=hc
   have H:∃ _:True,(match hv with | some v=>Instr.sliceBound v cap (if ZY=true then .sliceAcap else .sliceAlen) | none=>pure len).run E.P w=.ok h' w∧h'≤len:=by
    refine ⟨trivial,?_⟩
    cases hi with
    | none=>cases hv with
     | none=>simp at iP; subst iP; exact ⟨rfl,Nat.le_refl _⟩
     | some v=>exact hh.elim
    | some x=>cases hv with
     | none=>exact hh.elim
     | some v=>exact zq (E:=E) hh iP BN _
   have L:∃ _:True,(match lv with | some v=>Instr.sliceBound v h' .sliceB | none=>pure 0).run E.P w=.ok l' w∧l'≤h':=by
    refine ⟨trivial,?_⟩
    cases lo with
    | none=>cases lv with
     | none=>simp at P0; subst P0; exact ⟨rfl,Nat.zero_le _⟩
     | some v=>exact hl.elim
    | some x=>cases lv with
     | none=>exact hl.elim
     | some v=>exact zq (E:=E) hl P0 (Nat.le_refl _) _
   obtain ⟨_,H1,H2⟩:=H
   obtain ⟨_,L1,L2⟩:=L
   refine ⟨?_,L2,H2⟩
   cases hv <;> cases lv <;> simp_all [Instr.sliceBounds]
theorem qA (h:aQ E R w β s a) {x:Option Operand} {y:Option SV} (hx:kG E s.ae x=some y):PZ R w β y (x.map a.eval):=by
 cases x with
 | none=>simp [kG] at hx; subst hx; trivial
 | some x=>simp [kG] at hx; subst hx; exact aJ h x
theorem nt {α:Type} {l:List α} {lo hi:Nat} (h:hi≤l.length):(po lo hi l).length=hi - lo:=by
 simp [po]
 omega
theorem yy (l:List UInt8) (lo hi:Nat):(⟨⟨l⟩⟩:ByteArray).extract lo hi=⟨⟨po lo hi l⟩⟩:=by
 apply ByteArray.ext
 rw [ByteArray.data_extract]
 apply Array.ext'
 simp [List.extract_eq_take_drop,po,List.drop_take]
theorem F3 {ag:Bool} {b sz:Nat} (dx:(ag || Nat.beq sz 1)=true):∀ (n:Nat) {cs:List AV} {o:Nat},dZ R w b o cs→n * sz≤cs.length→allFit (DU ag) (gG ag sz n cs)=true→fM R w b o sz (gG ag sz n cs)
 | 0,_,_,_,_,_=>.nil
 | n+1,cs,o,hc,hl,hf=>by
  simp only [gG,allFit,Bool.and_eq_true] at hf
  obtain ⟨uk,Wx⟩:=hf
  unfold DU at uk
  simp only [Bool.and_eq_true] at uk
  obtain ⟨⟨h1,h2⟩,h3⟩:=uk
  have hle:sz≤cs.length:=by rw [Nat.succ_mul] at hl; omega
  have lq:(Ub ag (cs.take sz)).cells=cs.take sz:=by
   cases ag with
   | true=>rfl
   | false=>
    have DB:sz=1:=by simpa using dx
    subst DB
    match cs,hle with
    | a :: cs,_=>
     show AV.cells a=[a]
     have ho:a.one=true:=by simpa [Ub,dC] using h2
     cases a <;> first | rfl | simp [AV.one] at ho
  obtain ⟨vs,k1,k2,k3,k4⟩:=hc.get
  have hA:dZ R w b o (cs.take sz):=dZ.make (k1.take sz) (fun v hv=>k2 v (List.mem_of_mem_take hv)) (fun j v hv=>k3 j v (by
   rw [List.getElem?_take] at hv
   split at hv
   ·exact hv
   ·cases hv)) (fun j hj=>k4 j (by rw [List.length_take] at hj; omega))
  exact .cons (by rw [lq,List.length_take,Nat.min_eq_left hle]) h1 h3 (by rw [lq]; exact hA) (F3 dx n (hc.drop sz) (by rw [List.length_drop]; rw [Nat.succ_mul] at hl; omega) Wx)
theorem oR (ag:Bool) (sz:Nat):∀ (n:Nat) (cs:List AV),(gG ag sz n cs).length=n
 | 0,_=>rfl
 | n+1,cs=>by simp [gG,oR ag sz n]
theorem Ee (h:aQ E R w β s a) (t:TypeId) (x:Operand) (lo hi:Option Operand) (ho:o.op=.slice t x lo hi none) {l h':Option SV} (hl:kG E s.ae lo=some l) (hh:kG E s.ae hi=some h') {v:AV} (hv:Aq E t (bp E s.ae x) l h' none=some (true,v)) :
  bB E R w β s a o (s.put o.dst (.v v)):=by
 have rx:=aJ h x
 have rl:=qA h hl
 have rh:=qA h hh
 unfold Aq at hv
 split at hv
 ·rename_i i pw ZZ
  obtain ⟨fx,u,e1,e2,e3,e4,e5,e6⟩:=bR E pw
  split at hv
  ·-- a string
   rename_i bs hk hx
   rw [hx] at rx
   have cP:Rel R w (.str bs) (a.eval x):=rx
   generalize ea:a.eval x=xv at cP
   cases cP
   rw [hk] at e5
   have:=j7 e5
   subst this
   split at hv
   ·rename_i c p q hb
    injection hv with hv
    injection hv with h1 h2
    subst h1; subst h2
    obtain ⟨k1,k2,k3⟩:=dm (E:=E) false (Nat.le_refl _) rl rh hb
    refine ap h (c:=.string ⟨⟨po p q bs⟩⟩) ?_ (Rel.str _)
    rw [← yy]
    simp only [execOp,ho,Instr.sliceAt,Sem.run_bind,run_underlying e2,Result.andThen_ok,Instr.slice,ea,Option.map_none,Option.isSome_none,Bool.false_eq_true,if_false,size_bytes,k1,Sem.run_pure]
   ·cases hv
  ·-- a list
   rename_i elem esz ag mQ z k sz es hk hx
   rw [hx] at rx
   rw [hk] at e5
   obtain ⟨ie,ue,rfl,f1,f2,f3,f4,f5,f6⟩:=cE e5
   split at hv
   ·rename_i dx
    split at hv
    ·rename_i c p q hb
     injection hv with hv
     injection hv with h1 h2
     subst h1; subst h2
     have cP:Rel R w (.list k sz es) (a.eval x):=rx
     generalize ea:a.eval x=xv at cP
     cases cP with
     | iC=>
      obtain ⟨k1,k2,k3⟩:=dm (E:=E) true (Nat.le_refl _) rl rh hb
      simp only [List.length_nil,Nat.le_zero_eq] at k3
      subst k3
      have:p=0:=by omega
      subst this
      refine ap h (c:=.slice none 0 0) ?_ ?_
      ·simp only [execOp,ho,Instr.sliceAt,Sem.run_bind,run_underlying e2,Result.andThen_ok,Instr.slice,ea,Option.map_none]
       simp only [List.length_nil] at k1
       simp [k1,run_sizeOf w f1]
      ·exact Rel.iC
     | hZ=>
      obtain ⟨k1,k2,k3⟩:=dm (E:=E) true (Nat.le_refl _) rl rh hb
      simp only [List.length_nil,Nat.le_zero_eq] at k3
      subst k3
      have:p=0:=by omega
      subst this
      refine ap h (c:=.slice none 0 0) ?_ ?_
      ·simp only [execOp,ho,Instr.sliceAt,Sem.run_bind,run_underlying e2,Result.andThen_ok,Instr.slice,ea,Option.map_none]
       simp only [List.length_nil] at k1
       simp [k1,run_sizeOf w f1]
      ·exact Rel.hZ
     | @lj _ ad=>
      obtain ⟨k1,k2,k3⟩:=dm (E:=E) true (Nat.le_refl _) rl rh hb
      simp only [List.length_nil,Nat.le_zero_eq] at k3
      subst k3
      have:p=0:=by omega
      subst this
      refine ap h (c:=.slice (some ad) 0 0) ?_ ?_
      ·simp only [execOp,ho,Instr.sliceAt,Sem.run_bind,run_underlying e2,Result.andThen_ok,Instr.slice,ea,Option.map_none]
       simp only [List.length_nil] at k1
       simp [k1,run_sizeOf w f1]
      ·exact Rel.lj
     | jY h0 h00=>
      obtain ⟨k1,k2,k3⟩:=dm (E:=E) true (Nat.le_refl _) rl rh hb
      simp only [List.length_nil,Nat.le_zero_eq] at k3
      subst k3
      have:p=0:=by omega
      subst this
      refine ap h (c:=.slice none 0 0) ?_ ?_
      ·simp only [execOp,ho,Instr.sliceAt,Sem.run_bind,run_underlying e2,Result.andThen_ok,Instr.slice,ea,Option.map_none]
       simp only [List.length_nil] at k1
       simp [k1,run_sizeOf w f1]
      ·exact Rel.hZ
     | kH h0 h00=>
      obtain ⟨k1,k2,k3⟩:=dm (E:=E) true (Nat.le_refl _) rl rh hb
      simp only [List.length_nil,Nat.le_zero_eq] at k3
      subst k3
      have:p=0:=by omega
      subst this
      refine ap h (c:=.slice none 0 0) ?_ ?_
      ·simp only [execOp,ho,Instr.sliceAt,Sem.run_bind,run_underlying e2,Result.andThen_ok,Instr.slice,ea,Option.map_none]
       simp only [List.length_nil] at k1
       simp [k1,run_sizeOf w f1]
      ·exact Rel.hZ
     | @list _ _ _ b o' len cap hr hlen eh D7=>
      subst hlen
      obtain ⟨k1,k2,k3⟩:=dm (E:=E) true eh rl rh hb
      have Ul:es≠[]→sz=esz:=fun cg=>by
       simp only [Bool.or_eq_true] at dx
       rcases dx with hc | hc
       ·exact Nat.eq_of_beq_eq_true hc
       ·simp at hc; exact absurd hc cg
      have ba:(execOp a.eval o).run E.P w=.ok (.value (.slice (if cap=p then some ⟨b,o',none⟩ else some ⟨b,o'+p * esz,none⟩) (q - p) (cap - p))) w:=by
       simp only [execOp,ho,Instr.sliceAt,Sem.run_bind,run_underlying e2,Result.andThen_ok,Instr.slice,ea,Option.map_none,k1,run_sizeOf w f1,f2,Sem.run_pure,Option.map_some,bZ]
      have tj:∀ b2 o2,As R (match k with | .nil=>LK.nil | .full=>(match h' with | none=>LK.full | some _=>LK.gX) | _=>LK.gX) b2 o2 (q - p) (cap - p):=by
       intro b2 o2
       cases k with
       | nil=>exact D7.elim
       | gX=>trivial
       | own id=>trivial
       | aM id j=>trivial
       | full=>
        have hc:cap=es.length:=D7
        cases h' with
        | some _=>trivial
        | none=>
         have hq:q=es.length:=by
          unfold Ap at hb
          simp only at hb
          split at hb
          ·cases hb
          ·injection hb with hb
           injection hb with _ hb
           injection hb with _ hb
           exact hb.symm
         show cap - p=q - p
         omega
      by_cases Mz:cap=p
      ·refine ap h (c:=.slice (some ⟨b,o',none⟩) (q - p) (cap - p)) (by rw [ba,if_pos Mz]) ?_
       have he:po p q es=[]:=List.eq_nil_of_length_eq_zero (by rw [nt k3]; omega)
       exact Rel.list (by rw [he]; exact .nil) (by rw [nt k3]) (by omega) (tj _ _)
      ·refine ap h (c:=.slice (some ⟨b,o'+p * esz,none⟩) (q - p) (cap - p)) (by rw [ba,if_neg Mz]) ?_
       refine Rel.list ?_ (by rw [nt k3]) (by omega) (tj _ _)
       by_cases cg:es=[]
       ·subst cg
        simp [po]
        exact .nil
       ·have:=Ul cg
        subst this
        exact sk p (sm q hr)
    ·cases hv
   ·cases hv
  ·-- a heap slice
   rename_i elem esz ag mQ z id off sz len cap hk hx
   rw [hx] at rx
   rw [hk] at e5
   obtain ⟨ie,ue,rfl,f1,f2,f3,f4,f5,f6⟩:=cE e5
   split at hv
   ·rename_i dx
    have dx:=Nat.eq_of_beq_eq_true dx
    subst dx
    split at hv
    ·rename_i c p q hb
     injection hv with hv
     injection hv with h1 h2
     subst h1; subst h2
     have cP:Rel R w (.iy id off sz len cap) (a.eval x):=rx
     generalize ea:a.eval x=xv at cP
     cases cP with
     | @iy _ _ _ _ _ b XO eh=>
      obtain ⟨k1,k2,k3⟩:=dm (E:=E) true eh rl rh hb
      refine ap h (c:=.slice (some ⟨b,bif Nat.beq cap p then off else off+p * sz,none⟩) (q - p) (cap - p)) ?_ (Rel.iy XO (by omega))
      have hb:(bif Nat.beq cap p then off else off+p * sz)=if cap=p then off else off+p * sz:=by
       by_cases e:cap=p
       ·rw [if_pos e,e,show Nat.beq p p=true from Nat.beq_refl p]; rfl
       ·rw [if_neg e]
        cases hq:Nat.beq cap p with
        | true=>exact absurd (Nat.eq_of_beq_eq_true hq) e
        | false=>rfl
      rw [hb]
      simp only [execOp,ho,Instr.sliceAt,Sem.run_bind,run_underlying e2,Result.andThen_ok,Instr.slice,ea,Option.map_none,k1,run_sizeOf w f1,f2,Sem.run_pure,Option.map_some,bZ]
      split <;> rfl
    ·cases hv
   ·cases hv
  ·-- a slice that grows
   rename_i elem esz ag mQ z id f' off sz len hk hx
   rw [hx] at rx
   rw [hk] at e5
   obtain ⟨ie,ue,rfl,f1,f2,f3,f4,f5,f6⟩:=cE e5
   split at hv
   ·rename_i dx
    have dx:=Nat.eq_of_beq_eq_true dx
    subst dx
    split at hv
    ·rename_i c p q hb
     injection hv with hv
     injection hv with h1 h2
     subst h1; subst h2
     have cP:Rel R w (.cT id f' off sz len) (a.eval x):=rx
     generalize ea:a.eval x=xv at cP
     cases cP with
     | gT h0 h00=>
      obtain ⟨k1,k2,k3⟩:=dm (E:=E) true (Nat.le_refl _) rl rh hb
      simp only [Nat.le_zero_eq] at k3
      subst k3
      have:p=0:=by omega
      subst this
      refine ap h (c:=.slice none 0 0) ?_ ?_
      ·simp only [execOp,ho,Instr.sliceAt,Sem.run_bind,run_underlying e2,Result.andThen_ok,Instr.slice,ea,Option.map_none]
       simp [k1,run_sizeOf w f1]
      ·exact Rel.gT h0 h00
     | @cT _ _ _ _ _ cap b o' ro aU cS eh=>
      obtain ⟨k1,k2,k3⟩:=dm (E:=E) true eh rl rh hb
      have ba:(execOp a.eval o).run E.P w=.ok (.value (.slice (if cap=p then some ⟨b,o',none⟩ else some ⟨b,o'+p * sz,none⟩) (q - p) (cap - p))) w:=by
       simp only [execOp,ho,Instr.sliceAt,Sem.run_bind,run_underlying e2,Result.andThen_ok,Instr.slice,ea,Option.map_none,k1,run_sizeOf w f1,f2,Sem.run_pure,Option.map_some,bZ]
      have Z0:∀ o2,(o2=o'+p * sz∨cap=p)→Hn b o2 f' (off+p) sz (cap - p) ro:=fun o2 h2=>by
       cases ro with
       | none=>trivial
       | aR=>exact cS.elim
       | bw _=>exact cS.elim
       | aM _=>exact cS.elim
       | tok f1 b1 c1=>
        refine ⟨cS.1,fun e=>?_⟩
        obtain ⟨q1,q2,q3⟩:=cS.2 e
        refine ⟨q1,by omega,?_⟩
        rcases h2 with h2 | h2
        ·rcases q3 with q3 | q3
         ·exact .inl (by rw [h2,q3,Nat.add_mul])
         ·exact .inr (by omega)
        ·exact .inr (by omega)
      by_cases Mz:cap=p
      ·exact ap h (c:=.slice (some ⟨b,o',none⟩) (q - p) (cap - p)) (by rw [ba,if_pos Mz]) (Rel.cT aU (Z0 _ (.inr Mz)) (by omega))
      ·exact ap h (c:=.slice (some ⟨b,o'+p * sz,none⟩) (q - p) (cap - p)) (by rw [ba,if_neg Mz]) (Rel.cT aU (Z0 _ (.inl rfl)) (by omega))
    ·cases hv
   ·cases hv
  ·-- an array that never changes again
   rename_i len esz ag cs hk hx
   rw [hx] at rx
   rw [hk] at e5
   obtain ⟨e,ie,ue,rfl,f1,f2,f3,f4⟩:=np e5
   split at hv
   ·split at hv
    ·rename_i bH
     simp only [Bool.and_eq_true] at bH
     obtain ⟨⟨⟨c1,c2⟩,c3⟩,c4⟩:=bH
     injection hv with hv
     injection hv with _ h2
     subst h2
     have cP:Rel R w (.ep cs) (a.eval x):=rx
     generalize ea:a.eval x=xv at cP
     cases cP with
     | @ep _ b o' hr=>
     obtain ⟨k1,_,_⟩:=dm (E:=E) (w:=w) (R:=R) (β:=β) (l:=0) (h:=len) false (Nat.le_refl len) rl rh rfl
     refine ap h (c:=.slice (some ⟨b,o',none⟩) len len) ?_ (Rel.list (F3 c3 len hr (Nat.le_of_ble_eq_true c1) c4) (oR _ _ _ _).symm (Nat.le_refl _) rfl)
     simp only [execOp,ho,Instr.sliceAt,Sem.run_bind,run_underlying e2,Result.andThen_ok,ea,Instr.sureAddr,Option.map_none,k1,run_sizeOf w f1,f2,Sem.run_pure]
     by_cases r7:len=0
     ·subst r7
      simp
     ·simp [r7,bZ]
    ·cases hv
   ·cases hv
  ·cases hv
 ·cases hv
theorem AB (h:aQ E R w β s a) (t:TypeId) (ho:o.op=.makeMap t none):bB E R w β s a o ((s.df (.map [])).put o.dst (.v (.map s.G.length))):=by
 have fP:fO (R.add (.bw w.heap.size)) (w.alloc (.map #[] 0)) (.map []) (.bw w.heap.size):=⟨#[],0,heap_alloc_new w _,trivial,rfl,fun i e he=>by simp at he⟩
 refine ⟨_,.map (some w.heap.size),w.alloc (.map #[] 0),R.add (.bw w.heap.size),β,?_,.inl rfl,(h.j6 (.map #[] 0) (.map []) (.bw w.heap.size) (by exact fun _ h=>h) fP).put o.dst (x:=.v (.map s.G.length)) (Rel.map (fS h _)),by rw [aS]; exact cM h _ _ (by exact fun _ h=>h)⟩
 simp only [execOp,ho,Instr.makeMap,Option.map_none,Sem.run_bind,run_newObj,Result.andThen_ok,Sem.run_pure]
 rfl
theorem lr (h:aQ E R w β s a) (t:TypeId) (x y:Operand) (ho:o.op=.makeSlice t x y) {i:TI} (hi:E.ti t=some i) {k k':IntKind} {n m:Int} (hx:bp E s.ae x=.v (.int k n)) (hy:bp E s.ae y=.v (.int k' m))
  {elem esz mQ:Nat} {ag:Bool} {z:AV} (hk:i.k=.sl elem esz ag mQ (some z)) (hz:z.cells.length=esz) (Ed:1≤esz) (lM:z.aN=true) (hc:0≤n∧n≤m∧m≤140737488355328∧m * mQ≤140737488355328) :
  ∃ us,aC R w (ar (List.replicate m.toNat z)) us∧(∀ v∈us,v.oneCell'=true)∧(execOp a.eval o).run E.P w=.ok (.value (.slice (some ⟨w.heap.size,0,none⟩) n.toNat m.toNat)) (w.alloc (.cells ⟨us⟩ elem)):=by
 have rx:=aJ h x
 have ry:=aJ h y
 rw [hx] at rx
 rw [hy] at ry
 have cP:Rel R w (.int k n) (a.eval x):=rx
 have nh:Rel R w (.int k' m) (a.eval y):=ry
 generalize ea:a.eval x=xv at cP
 generalize Ty:a.eval y=yv at nh
 cases cP
 cases nh
 obtain ⟨c1,c2,c3,c4⟩:=hc
 obtain ⟨fx,u,e1,e2,e3,e4,e5,e6⟩:=bR E hi
 rw [hk] at e5
 obtain ⟨ie,ue,rfl,f1,f2,f3,f4,f5,f6⟩:=cE e5
 obtain ⟨zc,lD,BO⟩:=cI f6
 have O1:=BO R w
 obtain ⟨d1,d2⟩:=Rel.cells O1 lM
 have mX:zc.cells.size=esz:=by rw [← hz,d1.length]; simp
 obtain ⟨z1,z2⟩:=lN O1 lM m.toNat
 have jI:((Array.range (m.toNat * esz)).map fun i=>zc.cells[i % zc.cells.size]!)=⟨(List.replicate m.toNat zc.cells.toList).flatten⟩:=by
  apply Array.ext'
  rw [← mX]
  exact nr zc.cells m.toNat
 have wn:IntKind.i64.wrap n=n:=IntWalk.i64_in n (by omega)
 have wm:IntKind.i64.wrap m=m:=IntWalk.i64_in m (by omega)
 have ba:(Instr.makeSlice t (.int k n) (.int k' m)).run E.P w=.ok (.slice (some ⟨w.heap.size,0,none⟩) n.toNat m.toNat) (w.alloc (.cells ⟨(List.replicate m.toNat zc.cells.toList).flatten⟩ elem)):=by
  have hby:(ie.bytes:Int) * m≤281474976710656:=by rw [f3,Int.mul_comm]; omega
  have Um:¬ 281474976710656 < (ie.bytes:Int) * m:=by omega
  have h1:¬ m < 0:=by omega
  have h2:¬ n < 0:=by omega
  have h3:¬ m < n:=by omega
  have IR:(typeInfo elem).run E.P w=.ok ie w:=by simp [typeInfo,f1]
  by_cases h0:m.toNat * esz=0
  ·have Z1:m.toNat=0:=by
    rcases Nat.mul_eq_zero.1 h0 with h0 | h0 <;> omega
   have B3:∀ f:Nat→Value,Array.map f (Array.range 0)=#[]:=fun f=>by simp
   simp [Instr.makeSlice,run_underlying e2,asInt,asIntOf,IR,wn,wm,h1,h2,h3,Um,run_sizeOf w f1,f2,Z1,newRow]
   rw [B3]
  ·simp [Instr.makeSlice,run_underlying e2,asInt,asIntOf,IR,wn,wm,h1,h2,h3,Um,run_sizeOf w f1,f2,h0,gw w f1 lD,newRow]
   rw [← jI]
 refine ⟨_,z1,z2,?_⟩
 simp only [execOp,ho,ea,Ty,Sem.run_bind,ba,Result.andThen_ok,Sem.run_pure]
theorem vy (h:aQ E R w β s a) (t:TypeId) (x y:Operand) (ho:o.op=.makeSlice t x y) {i:TI} (hi:E.ti t=some i) {k k':IntKind} {n m:Int} (hx:bp E s.ae x=.v (.int k n)) (hy:bp E s.ae y=.v (.int k' m))
  {elem esz mQ:Nat} {ag:Bool} {z:AV} (hk:i.k=.sl elem esz ag mQ (some z)) (hz:z.cells.length=esz) (Ed:1≤esz) (lM:z.aN=true) (hc:0≤n∧n≤m∧m≤140737488355328∧m * mQ≤140737488355328) :
  bB E R w β s a o ((s.df (.row (ar (List.replicate m.toNat z)) elem)).put o.dst (.v (.iy s.G.length 0 esz n.toNat m.toNat))):=by
 obtain ⟨us,z1,z2,ba⟩:=lr h t x y ho hi hx hy hk hz Ed lM hc
 have e:=fR (R:=R) (w:=w) h.g.wf (.cells ⟨us⟩ elem) (.bw w.heap.size)
 have fP:fO (R.add (.bw w.heap.size)) (w.alloc (.cells ⟨us⟩ elem)) (.row (ar (List.replicate m.toNat z)) elem) (.bw w.heap.size):=
  ⟨_,heap_alloc_new w _,z1.mono e,z2,fun o' hi=>by have:=h.g.wf _ _ hi; omega⟩
 exact ⟨_,.slice (some ⟨w.heap.size,0,none⟩) n.toNat m.toNat,_,R.add (.bw w.heap.size),β,ba,.inl rfl,(h.j6 _ _ (.bw w.heap.size) (by exact fun _ h=>h) fP).put o.dst (x:=.v (.iy s.G.length 0 esz n.toNat m.toNat)) (Rel.iy (fS h _) (by omega)),by rw [aS]; exact cM h _ _ (by exact fun _ h=>h)⟩
end ops
end Go.Am
namespace Go.Am
open Go
section ops
variable {E:Env} {R:af} {w:World} {β:Nat→Nat} {s:St} {a:Act} {o:Oper}
theorem j8 (x:Array Operand) (f:Operand→Value):x.map f=⟨x.toList.map f⟩:=Array.ext' (by simp)
theorem cZ {b:Builtin} {args:Array Operand} {tys:Array TypeId} (ho:o.op=.call { callee:=.builtin b,args:=args,argTypes:=tys }) (vs:List Value) (hv:args.toList.map a.eval=vs) :
  (execOp a.eval o).run E.P w=(builtin b tys o.type (args.map fun | .const _=>true | _=>false) ⟨vs⟩).run E.P w:=by
 simp only [execOp,ho,resolve,Sem.run_bind,Sem.run_pure,Result.andThen_ok,invoke,j8 args a.eval,hv]
 rfl
theorem dg.length:∀ {l:List (AV × AV)} {es:List MapEntry},dg R w l es→l.length=es.length
 | [],[],_=>rfl
 | _ :: _,_ :: _,h=>by simp [dg.length h.2.2]
 | [],_ :: _,h=>h.elim
 | _ :: _,[],h=>h.elim
theorem Jl (h:aQ E R w β s a) {args:Array Operand} {tys:List TypeId} (ho:o.op=.call { callee:=.builtin .len,args:=args,argTypes:=⟨tys⟩ }) {l:List AV} (hl:kN E s.ae args.toList=some l) {s':St} (hs:bS E s o.dst .len l tys=some (true,s')) :
  bB E R w β s a o s':=by
 have hr:=eO h hl
 generalize hv:args.toList.map a.eval=vs at hr
 have hx:=cZ (E:=E) (w:=w) ho vs hv
 unfold bS at hs
 split at hs <;> first | (rename_i h1; cases h1; done) | skip
 ·rename_i x
  cases hr with
  | cons h0 h1=>
  cases h1
  split at hs
  ·rename_i t tl
   split at hs
   ·rename_i i hi
    obtain ⟨fx,u,e1,e2,e3,e4,e5,e6⟩:=bR E hi
    split at hs
    ·rename_i bs hk
     cases hs
     cases h0
     rw [hk] at e5
     have:=j7 e5
     subst this
     refine ap h (c:=.int .i64 bs.length) ?_ (Rel.int _ _)
     rw [hx]
     simp [builtin,Builtin.len_,run_underlying e2,goInt,size_bytes]
    ·rename_i kk sz es hk
     cases hs
     rw [hk] at e5
     obtain ⟨ie,ue,rfl,_⟩:=cE e5
     refine ap h (c:=.int .i64 es.length) ?_ (Rel.int _ _)
     rw [hx]
     cases h0 with
     | iC=>simp [builtin,Builtin.len_,run_underlying e2,goInt]
     | hZ=>simp [builtin,Builtin.len_,run_underlying e2,goInt]
     | lj=>simp [builtin,Builtin.len_,run_underlying e2,goInt]
     | jY=>simp [builtin,Builtin.len_,run_underlying e2,goInt]
     | kH=>simp [builtin,Builtin.len_,run_underlying e2,goInt]
     | list _ hlen _ _=>subst hlen; simp [builtin,Builtin.len_,run_underlying e2,goInt]
    ·rename_i id off sz len cap hk
     cases hs
     rw [hk] at e5
     obtain ⟨ie,ue,rfl,_⟩:=cE e5
     refine ap h (c:=.int .i64 len) ?_ (Rel.int _ _)
     rw [hx]
     cases h0
     simp [builtin,Builtin.len_,run_underlying e2,goInt]
    ·rename_i id f' off sz len hk
     cases hs
     rw [hk] at e5
     obtain ⟨ie,ue,rfl,_⟩:=cE e5
     refine ap h (c:=.int .i64 len) ?_ (Rel.int _ _)
     rw [hx]
     cases h0 <;> simp [builtin,Builtin.len_,run_underlying e2,goInt]
    ·rename_i id j' sz len hk
     cases hs
     rw [hk] at e5
     obtain ⟨ie,ue,rfl,_⟩:=cE e5
     refine ap h (c:=.int .i64 len) ?_ (Rel.int _ _)
     rw [hx]
     cases h0 <;> simp [builtin,Builtin.len_,run_underlying e2,goInt]
    ·rename_i n esz ag hk
     cases hs
     rw [hk] at e5
     obtain ⟨e,ie,ue,rfl,_⟩:=np e5
     refine ap h (c:=.int .i64 n) ?_ (Rel.int _ _)
     rw [hx]
     simp [builtin,Builtin.len_,run_underlying e2,goInt]
    ·rename_i hk
     cases hs
     rw [hk] at e5
     obtain ⟨rfl,_⟩:=lK e5
     refine ap h (c:=.int .i64 0) ?_ (Rel.int _ _)
     rw [hx]
     cases h0
     simp [builtin,Builtin.len_,run_underlying e2,goInt]
    ·rename_i id hk
     split at hs
     ·rename_i es hg
      cases hs
      rw [hk] at e5
      obtain ⟨rfl,_⟩:=lK e5
      cases h0 with
      | @map _ b hb=>
      obtain ⟨az,clock,g1,g2,g3⟩:=h.g.obj id _ _ hg hb
      refine ap h (c:=.int .i64 es.length) ?_ (Rel.int _ _)
      rw [hx]
      have fP:(getObj b).run E.P w=.ok (.map az clock) w:=by simp [getObj,Sem.run,g1]
      simp [builtin,Builtin.len_,run_underlying e2,goInt,fP,g2.length]
     ·cases hs
    ·cases hs
   ·cases hs
  ·cases hs
 ·cases hs
theorem F4 {b:Bool}:∀ {l:List AV} {x v:AV} {c:Value} {cs:List Value},Rel R w x c→aC R w l cs→Hj x l=some v→∃ c',(cs.foldlM Builtin.max2 c).run E.P w=.ok c' w∧Rel R w v c'
 | [],x,v,c,cs,hr,hl,hv=>by
  cases hl
  simp only [Hj] at hv
  cases hv
  exact ⟨c,rfl,hr⟩
 | y :: l,x,v,c,cs,hr,hl,hv=>by
  cases hl with
  | cons hy hl=>
  unfold Hj at hv
  split at hv
  ·rename_i iP; cases iP
  ·rename_i k n k' m l' iP
   cases iP
   split at hv
   ·rename_i hk
    subst hk
    cases hr
    cases hy
    obtain ⟨c',h1,h2⟩:=F4 (b:=b) (Rel.int k (if m > n then m else n)) hl hv
    refine ⟨c',?_,h2⟩
    simp only [List.foldlM_cons,Sem.run_bind,Builtin.max2,Sem.run_pure,Result.andThen_ok]
    exact h1
   ·cases hv
  ·cases hv
theorem AD {b:Bool}:∀ {l:List AV} {x v:AV} {c:Value} {cs:List Value},Rel R w x c→aC R w l cs→DV x l=some v→∃ c',(cs.foldlM Builtin.min2 c).run E.P w=.ok c' w∧Rel R w v c'
 | [],x,v,c,cs,hr,hl,hv=>by
  cases hl
  simp only [DV] at hv
  cases hv
  exact ⟨c,rfl,hr⟩
 | y :: l,x,v,c,cs,hr,hl,hv=>by
  cases hl with
  | cons hy hl=>
  unfold DV at hv
  split at hv
  ·rename_i iP; cases iP
  ·rename_i k n k' m l' iP
   cases iP
   split at hv
   ·rename_i hk
    subst hk
    cases hr
    cases hy
    obtain ⟨c',h1,h2⟩:=AD (b:=b) (Rel.int k (if m < n then m else n)) hl hv
    refine ⟨c',?_,h2⟩
    simp only [List.foldlM_cons,Sem.run_bind,Builtin.min2,Sem.run_pure,Result.andThen_ok]
    exact h1
   ·cases hv
  ·rename_i n m l' iP
   cases iP
   cases hr
   cases hy
   obtain ⟨c',h1,h2⟩:=AD (b:=b) (Rel.str (bif Op.bytesLess n m || n == m then n else m)) hl hv
   refine ⟨c',?_,h2⟩
   have e:(Builtin.min2 (.string ⟨⟨n⟩⟩) (.string ⟨⟨m⟩⟩)).run E.P w=.ok (.string ⟨⟨bif Op.bytesLess n m || n == m then n else m⟩⟩) w:=by
    simp only [Builtin.min2,Op.stringOp,Sem.run_bind,Sem.run_pure,Result.andThen_ok]
    show Result.andThen ((asBool _).run E.P w) _=_
    cases hb:(Op.bytesLess n m || n == m) <;> simp_all [asBool]
   simp only [List.foldlM_cons,Sem.run_bind,e,Result.andThen_ok]
   exact h1
  ·cases hv
theorem Jm (h:aQ E R w β s a) {args:Array Operand} {tys:Array TypeId} (ho:o.op=.call { callee:=.builtin .max,args:=args,argTypes:=tys }) {x v:AV} {l:List AV} (hl:kN E s.ae args.toList=some (x :: l)) (hm:Hj x l=some v) :
  bB E R w β s a o (s.put o.dst (.v v)):=by
 have hr:=eO h hl
 generalize hv:args.toList.map a.eval=vs at hr
 have hx:=cZ (E:=E) (w:=w) ho vs hv
 cases hr with
 | cons h0 h1=>
 obtain ⟨c',k1,k2⟩:=F4 (E:=E) (b:=true) h0 h1 hm
 refine ap h (c:=c') ?_ k2
 rw [hx]
 simp [builtin,Builtin.max_,k1]
theorem Jn (h:aQ E R w β s a) {args:Array Operand} {tys:Array TypeId} (ho:o.op=.call { callee:=.builtin .min,args:=args,argTypes:=tys }) {x v:AV} {l:List AV} (hl:kN E s.ae args.toList=some (x :: l)) (hm:DV x l=some v) :
  bB E R w β s a o (s.put o.dst (.v v)):=by
 have hr:=eO h hl
 generalize hv:args.toList.map a.eval=vs at hr
 have hx:=cZ (E:=E) (w:=w) ho vs hv
 cases hr with
 | cons h0 h1=>
 obtain ⟨c',k1,k2⟩:=AD (E:=E) (b:=true) h0 h1 hm
 refine ap h (c:=c') ?_ k2
 rw [hx]
 simp [builtin,Builtin.min_,k1]
end ops
end Go.Am
