/- The abstract machine: an evaluator of code on states with leaves. -/
import Derived.Test.YtegoimldbgdeiaaGreatAmKJ
import GoSem.ClaimJoined
set_option linter.all false
open Bool renaming and_eq_true→aaa
open Classical renaming propDecidable→aar
open Go.DataW renaming trod→aah
open Go.Field renaming offset→abu
open Go.Value renaming oneCell'→aaF, okWide→abr
open List renaming getElem?_range→aaq, range→aas, mem_cons→abp
open Nat renaming eq_of_beq_eq_true→aag, beq→aak, lt_succ_self→aaG
open Option.some renaming inj→aaN
namespace Go.Am
open Go
structure bH where
 ps:aR
 p:aM
 T:ps.T→Option p.T
def aJ (E:Env) (g:FuncId) (e:bH):Prop:=∀ x y,e.T x=some y→bY E g (e.ps.enc x) (fun r=>r=e.p.enc y)
inductive XK
 |norm
 |ret
 |ex (id:Nat)
def XK.is:XK→Exit→Bool
 |.norm,.normal=>true
 |.ret,.ret=>true
 |.ex i,.exit j=>aak i j
 |_,_=>false
def XK.exit:XK→Exit
 |.norm=>.normal
 |.ret=>.ret
 |.ex i=>.exit i
theorem XK.N3 {k:XK} {e:Exit} (h:k.is e=true):e=k.exit:=by
 cases k <;> cases e <;> simp_all [XK.is,XK.exit]
def JT:List (XK × dC)→Type
 |[]=>Empty
 |[x]=>x.2.ps.T
 |x :: y :: l=>x.2.ps.T ⊕ JT (y :: l)
def wj (s:St):(outs:List (XK × dC))→Exit→St→Option (JT outs)
 |[],_,_=>none
 |[x],e,s'=>bif x.1.is e then x.2.dec s s' else none
 |x :: y :: l,e,s'=>bif x.1.is e then (x.2.dec s s').bind fun v=>some (.inl v) else (wj s (y :: l) e s').bind fun o=>some (.inr o)
def YN {α:Type} (s:St):(outs:List (XK × dC))→JT outs→(Exit→St→α)→α
 |[],o,_=>Empty.rec (fun _=>α) o
 |[x],o,K=>K x.1.exit (x.2.st s o)
 |x :: y :: l,o,K=>Sum.elim (fun v=>K x.1.exit (x.2.st s v)) (fun o=>YN s (y :: l) o K) o
inductive eZ
 |loop (gh:List (Loc × Nat × TypeId)) (head:dC) (outs:List (XK × dC))
 |join (outs:List (XK × dC))
 |rot (k:List Bool) (gh:List (Loc × Nat × TypeId)) (head:dC) (outs:List (XK × dC))
 |alt (n:Nat) (a b:eZ)
 |gK (gh:List (Loc × Nat × TypeId)) (head:dC) (outs:List (XK × dC))
 |YO (gh:List (Loc × Nat × TypeId)) (head:dC)
 |afe (t:Tmp) (sz:Nat) (e:TypeId) (head:dC) (outs:List (XK × dC))
def Sy (n:Nat):eZ→eZ
 |.alt m a b=>bif aak n m then Sy n a else Sy n b
 |c=>c
def aA {V X:Type} (rd:V→Option (V ⊕ X)):Nat→V→Option X
 |0,_=>none
 |n+1,v=>(rd v).bind fun o=>Sum.elim (fun v'=>aA rd n v') (fun x=>some x) o
def gK {V X:Type} (rd:(V→Option X)→V→Option X):Nat→V→Option X
 |0,_=>none
 |n+1,v=>rd (gK rd n) v
structure DS (E:Env) (g:FuncId) where
 f:List AV→List GO→Option (Bool × AV × List GO)
 ok:∀ args G r G',f args G=some (true,r,G')→eP E g args G (fun r' N7=>r'=r∧N7=G')
structure Av (E:Env) (g:FuncId) where
 ps:aR
 outs:List RF
 T:ps.T→Option (XT outs)
 ok:∀ x y,T x=some y→uQ E g (ps.enc x) outs (fun z=>z=y)
structure km where
 D:aaD
 PX:FuncId→Option bH
 HG:FuncId→Nat→Option eZ
 fz:Bool
 N:Nat
 gt:(g:FuncId)→Option (DS D.toEnv g):=fun _=>none
 xt:(g:FuncId)→Option (Av D.toEnv g):=fun _=>none
def vI {α:Type} (fz:Bool) (s:St) (K:St→α):α:=match fz with
 |true=>Ml s K
 |false=>match s with
  |⟨sl,bx,G,m,ro,n⟩=>K ⟨sl,bx,G,m,ro,n⟩
theorem eD {α:Type} (fz:Bool) (s:St) (K:St→α):vI fz s K=K s:=by
 cases fz
 ·rfl
 ·exact PQ s K
abbrev uR (X:Type):=FuncId→List AV→List GO→(AV→List GO→Option X)→Option X
abbrev qQ (X:Type):=Nat→List AV→List GO→(Bool→List GO→Option X)→Option X
section ev
variable {X:Type}
def HH (E:Env) (s:St) (o:Oper):Option (Int × Nat × (Nat→Oper)):=match o.op with
 |.index t x (.tmp y)=>match bO E s.ab (.tmp y),E.ti t with
  |.v (.int k n),some i=>match i.k with
   |.arr len _ _=>some (n,len,fun j=>{ o with op:=.index t x (.const (.int k j)) })
   |_=>none
  |_,_=>none
 |.indexAddr t x (.tmp y)=>match bO E s.ab (.tmp y),E.ti t with
  |.v (.int k n),some i=>match i.k with
   |.arr len _ _=>match bO E s.ab x with
    |.v (.ep _)=>match E.U1 t with
     |some _=>none
     |none=>some (n,len,fun j=>{ o with op:=.indexAddr t x (.const (.int k j)) })
    |_=>some (n,len,fun j=>{ o with op:=.indexAddr t x (.const (.int k j)) })
   |_=>none
  |_,_=>none
 |_=>none
def Cf (E:Env) (fz:Bool) (f:FuncId) (g:Nat→Oper) (n:Int) (K:St→Option X) (s:St):Nat→Nat→Option X
 |0,_=>none
 |m+1,j=>bif decide (n=(j:Int)) then (match aq E f s (g j) with
   |some (c,s')=>bif c then vI fz s' K else none
   |_=>none) else Cf E fz f g n K s m (j+1)
def oOp (E:Env) (fz:Bool) (call:uR X) (qo:qQ X) (f:FuncId) (o:Oper) (K:St→Option X) (s:St):Option X:=
 match o.op with
 |.call { callee:=.value x,args,.. }=>match bO E s.ab x,rk E s.ab args.toList with
  |.v (.fn g first cap),some l=>call g (first++l++cap) s.G (fun r G'=>vI fz ((s.bM G').put o.dst (.v r)) K)
  |.v (.yield id),some l=>qo id l s.G (fun b G'=>vI fz ((s.bM G').put o.dst (.v (.bool b))) K)
  |_,_=>none
 |.defer _=>none
 |.next x true=>match Sr s o.dst (bO E s.ab x) with
  |some (b,s1,s2)=>bif b then vI fz s1 K else vI fz s2 K
  |none=>none
 |.lookup t m k ok=>match Cb E s t (bO E s.ab m) (bO E s.ab k) with
  |some (c,v,b)=>bif c then vI fz (s.put o.dst (.v (if ok then .bW [v,.bool b] else v))) K else none
  |none=>match aq E f s o with
   |some (c,s')=>bif c then vI fz s' K else none
   |_=>none
 |.mapUpdate t m k x=>match o.dst,Cc E s t (bO E s.ab m) (bO E s.ab k) (bO E s.ab x) with
  |none,some (c,s')=>bif c then vI fz s' K else none
  |_,_=>none
 |.insert t m k x=>match o.dst,Cc E s t (bO E s.ab m) (bO E s.ab k) (bO E s.ab x) with
  |none,some (c,s')=>bif c then vI fz s' K else none
  |_,_=>none
 |.call { callee:=.builtin .append,args,argTypes }=>match kR E f s o with
  |some (c,s')=>bif c then vI fz s' K else none
  |none=>match rk E s.ab args.toList with
   |some l=>match HB E s o.dst l argTypes.toList with
    |some (b,s1,c,s2)=>bif b then vI fz s1 K else bif c then vI fz s2 K else none
    |none=>match aq E f s o with
     |some (c,s')=>bif c then vI fz s' K else none
     |_=>none
   |none=>none
 |.call { callee:=.builtin .copy,args,argTypes }=>match rk E s.ab args.toList with
  |some l=>match Su E s o.dst l argTypes.toList with
   |some (c,s')=>bif c then vI fz s' K else none
   |none=>match aq E f s o with
    |some (c,s')=>bif c then vI fz s' K else none
    |_=>none
  |none=>none
 |_=>match HH E s o with
  |some (n,len,g)=>Cf E fz f g n K s len 0
  |none=>match aq E f s o with
   |some (c,s')=>bif c then vI fz s' K else none
   |_=>none
def uS (E:Env) (fz:Bool) (call:uR X) (qo:qQ X) (f:FuncId) (ops:List Oper) (o:Oper) (K:St→Option X) (s:St):Option X:=
 match o.guard with
 |none=>oOp E fz call qo f o K s
 |some (j,want)=>match uD ops j with
  |none=>none
  |some d=>match lk s.ab d with
   |.v (.bool b)=>match want with
    |true=>bif b then vI fz (s.put (some d) (.v (.bool true))) (oOp E fz call qo f o K) else vI fz ((s.put (some d) (.v (.bool false))).put o.dst (.v jE)) K
    |false=>bif b then vI fz ((s.put (some d) (.v (.bool true))).put o.dst (.v jE)) K else vI fz (s.put (some d) (.v (.bool false))) (oOp E fz call qo f o K)
   |.v (.bW [])=>vI fz (s.put o.dst (.v jE)) K
   |_=>none
def HI (E:Env) (fz:Bool) (call:uR X) (qo:qQ X) (f:FuncId) (ops:List Oper) (o:Oper) (K:St→Option X) (s:St):Option X:=
 match o.guard,mV E f s o with
 |none,some s'=>vI fz s' K
 |_,_=>uS E fz call qo f ops o K s
noncomputable def JE {X:Type} (l:List Nat) (F:Nat→Option X):Option X:=match l with
 |[]=>none
 |i :: r=>@ite _ (∀ j∈r,F j=F i) (aar _) (F i) none
theorem PY {X:Type} {l:List Nat} {F:Nat→Option X} {x:X} (h:JE l F=some x):∀ i∈l,F i=some x:=by
 cases l with
 |nil=>cases h
 |cons i r=>
  have h:@ite _ (∀ j∈r,F j=F i) (aar _) (F i) none=some x:=h;by_cases hr:∀ j∈r,F j=F i
  ·rw [if_pos hr] at h;intro j hj;rcases abp.1 hj with rfl|hj
   ·exact h
   ·rw [hr j hj]; exact h
  ·rw [if_neg hr] at h;cases h
theorem yJ {X:Type} {l:List Nat} {F:Nat→Option X} {x:X} (hl:l≠[]) (h:∀ i∈l,F i=some x):JE l F=some x:=by
 cases l with
 |nil=>exact absurd rfl hl
 |cons i r=>
  show @ite _ (∀ j∈r,F j=F i) (aar _) (F i) none=some x;have hr:∀ j∈r,F j=F i:=fun j hj=>by rw [h j (List.mem_cons_of_mem _ hj),h i List.mem_cons_self]
  rw [if_pos hr];exact h i List.mem_cons_self
noncomputable def Cg (E:Env) (fz:Bool) (call:uR X) (qo:qQ X) (f:FuncId) (ops:List Oper) (o:Oper) (K:St→Option X) (s:St):Option X:=
 match o.guard,A2 E f s o,zT E s o with
 |none,some (c,s'),_=>bif c then vI fz s' K else none
 |none,none,some (c,s0,left,g)=>bif c then (bif left.isEmpty then vI fz s0 K else JE left fun i=>bif (g i).1 then vI fz (g i).2 K else none) else none
 |_,_,_=>HI E fz call qo f ops o K s
noncomputable def HJ (E:Env) (fz:Bool) (call:uR X) (qo:qQ X) (f:FuncId) (ops:List Oper) (o:Oper) (K:St→Option X) (s:St):Option X:=
 match Pc E f s o with
 |some (c,s')=>bif c then Cg E fz call qo f ops o K s' else none
 |none=>Cg E fz call qo f ops o K s
noncomputable def VI (E:Env) (fz:Bool) (call:uR X) (qo:qQ X) (f:FuncId) (ops:List Oper):List Oper→(St→Option X)→St→Option X
 |[],K,s=>K s
 |o :: rest,K,s=>HJ E fz call qo f ops o (fun s'=>match FU E f o s' with
  |some (c,s2)=>bif c then VI E fz call qo f ops rest K s2 else none
  |none=>none) s
def aaO (E:Env) (f:FuncId) (ops:List Oper) (o:Oper) (s:St):Bool:=match o.op,o.dst with
 |.lookup t m k ok,some d=>match Ip ops s o,Cb E s t (bO E s.ab m) (bO E s.ab k) with
  |some true,some (c,v,b)=>c&&Hs (.v (if ok then .bW [v,.bool b] else v)) (lk s.ab d)
  |_,_=>bRe E f ops o s
 |_,_=>bRe E f ops o s
def vJ (E:Env) (f:FuncId) (ops:List Oper):List Nat→St→Bool
 |[],_=>true
 |k :: l,s=>(match nth ops k with
  |some ok=>aaO E f ops ok s
  |none=>true)&&vJ E f ops l s
def oT (E:Env) (fz:Bool) (call:uR X) (qo:qQ X) (jN:Option X→Option X→Option X) (f:FuncId) (ops:List Oper):DT→(St→Option X)→St→Option X
 |.done,K,s=>K s
 |.take j _ t,K,s=>match nth ops j with
  |some oj=>uS E fz call qo f ops oj (oT E fz call qo jN f ops t K) s
  |none=>none
 |.br i re _ t .stop,K,s=>match nth ops i with
  |some oi=>uS E fz call qo f ops oi (fun s'=>bif vJ E f ops re s' then oT E fz call qo jN f ops t K s' else none) s
  |none=>none
 |.br i re _ t more,K,s=>jN (match nth ops i with
  |some oi=>uS E fz call qo f ops oi (fun s'=>bif vJ E f ops re s' then oT E fz call qo jN f ops t K s' else none) s
  |none=>none) (oT E fz call qo jN f ops more K s)
 |.stop,_,_=>none
 |.al j W t,K,s=>match nth ops j with
  |some oj=>bif aaw E f oj W s then uS E fz call qo f ops oj (oT E fz call qo jN f ops t K) s else none
  |none=>none
end ev
def YP {X:Type} (N:St→Option X) (Q:Exit→St→Option X):Exit→St→Option X
 |.normal,s=>N s
 |e,s=>Q e s
def Sz {X:Type} (id:Nat) (Q:Exit→St→Option X):Exit→St→Option X
 |.exit mc,s=>bif aak mc id then Q .normal s else Q (.exit mc) s
 |e,s=>Q e s
def aaP {X:Type} (Q:Exit→St→Option X):Exit→St→Option X
 |.goto _,_=>none
 |e,s=>Q e s
def SA {X:Type} (E:Env) (fn:Func) (K:AV→List GO→Option X):Exit→St→Option X
 |.normal,s | .ret,s=>match uF s.marks s.G with
  |some G=>match RZ E (s.bM G) fn with
   |some r=>K r G
   |none=>none
  |none=>none
 |_,_=>none
def YQ (s:St) (head:dC) (outs:List (XK × dC)):Exit→St→Option (head.ps.T ⊕ JT outs)
 |.normal,s'=>(head.dec s s').bind fun v=>some (.inl v)
 |e,s'=>(wj s outs e s').bind fun o=>some (.inr o)
noncomputable def PZ {X:Type} (a b:Option X):Option X:=@ite _ (a=b) (aar _) a none
def Bo {X:Type} (jN:Option X→Option X→Option X):Prop:=∀ a b x,jN a b=some x→a=some x∧b=some x
def MB {X:Type} (id:Nat) (K:Bool→List GO→Option X):Exit→St→Option X:=fun e s=>match nth s.G id with
 |some (.loop _ _ fn sl n ps xm bd d _)=>match e with
  |.normal=>K true (aC s.G id (.loop false none fn sl n ps xm bd d false))
  |.ret=>K false (aC s.G id (.loop false (some .ret) fn sl n ps xm bd d true))
  |.exit i=>K false (aC s.G id (.loop false (some (.exit i)) fn sl n ps xm bd d true))
  |_=>none
 |_=>none
def fpF (fp:Nat):Nat:=fp % 4096
def fpP (fp:Nat):Nat:=fp / 4096
abbrev EvT:=FuncId→Nat→Code→(X:Type)→(Option X→Option X→Option X)→(Exit→St→Option X)→St→Option X
section
variable (C:km) (ih:EvT)
def Gb {X:Type} (jN:Option X→Option X→Option X):uR X:=fun g args G K=>
 bif C.D.okF g then match C.D.P.funcs[g]? with
   |some fn=>match fn.body with
    | some b => bif !(fn.name == "runtime.NumGoroutine") then ih g 1 b X jN (SA C.D.toEnv fn (bif C.D.E0 g 131072 then aaJ C.D.toEnv (C.D.E0 g 131073) (C.D.E0 g 131074) fn.resultTypes.toList K else K)) (St.init fn.ntmps args G) else none
    |none=>none
   |none=>none
  else none
def Gc {X:Type} (jN:Option X→Option X→Option X):uR X:=fun g args G K=>
 match C.PX g with
 |some e=>(e.ps.dec args).bind fun x=>(e.T x).bind fun y=>K (e.p.enc y) G
 |none=>match C.gt g with
  |some e=>match e.f args G with
   |some (c,r,G')=>bif c then K r G' else none
   |none=>none
  |none=>match C.xt g with
   |some e=>(e.ps.dec args).bind fun x=>(e.T x).bind fun o=>goX G K e.outs o
   |none=>Gb C ih jN g args G K
def VJ (n:Nat):List Tmp→Bool
 |[]=>true
 |t :: l=>Nat.blt t n&&VJ n l
def VK {X:Type} (jN:Option X→Option X→Option X):qQ X:=fun id args G K=>match nth G id with
 |some (.loop false _ fp sl n ps xm bd _ false)=>
  bif aak args.length ps.length&&VJ n ps&&dL (C.D.dt (fpF fp)) xm&&dL (C.D.dt (fpF fp)) bd then
   ih (fpF fp) (2 * fpP fp) xm X jN (fun e s1=>match e with
    |.normal=>match nth s1.G id with
     |some (.loop false p fn sl n ps xm bd' d false)=>ih (fpF fp) (2 * fpP fp+1) bd X jN (MB id K) (s1.bM (aC s1.G id (.loop true p fn sl n ps xm bd' d false)))
     |_=>none
    |_=>none) (St.round id (DK ps args sl) n G)
  else none
 |_=>none
noncomputable def DU (f:FuncId) (p:Nat) (c:Code) (X:Type) (jN:Option X→Option X→Option X) (K:Exit→St→Option X) (s:St):Option X:=
 match c with
 |.skip=>K .normal s
 |.label _=>K .normal s
 |.seq x y=>ih f (2 * p) x X jN (YP (ih f (2 * p+1) y X jN K) K) s
 |.cond c x y=>match bO C.D.toEnv s.ab c with
  |.v (.bool b)=>bif b then ih f (2 * p) x X jN K s else ih f (2 * p+1) y X jN K s
  |_=>none
 |.block id c=>ih f (2 * p) c X jN (Sz id K) s
 |.exit id=>K (.exit id) s
 |.ret=>K .ret s
 |.region _ ops false=>VI C.D.toEnv C.fz (Gc C ih jN) (VK C ih jN) f ops.toList ops.toList (K .normal) s
 |.region id ops true=>match C.D.dt f id with
  |some pl=>oT C.D.toEnv C.fz (Gc C ih jN) (VK C ih jN) jN f ops.toList pl.T (K .normal) s
  |none=>none
 |.scope c=>ih f (2 * p) c X jN (aaP K) s
 |.loop c=>ih f (2 * p) c X jN (YP (ih f p (.loop c) X jN K) K) s
 |.rangeFunc g ps xm bd=>match s.ro with
  |none=>match bO C.D.toEnv s.ab g with
   |.v (.fn h first cap)=>Gc C ih jN h (first++[.yield (s.G.length+1)]++cap) (s.G++[.defers true]++[.loop false none (4096 * p+f) (iX s.ab) s.n ps.toList xm bd s.G.length false])
    (fun _ G'=>match nth G' (s.G.length+1) with
     |some (.loop busy pending _ _ _ _ _ _ _ done)=>bif !busy || done then
       match pending with
       |none=>vI C.fz ⟨s.ab,s.boxes,aC G' (s.G.length+1) .dead,s.G.length :: s.marks,s.ro,s.n⟩ (K .normal)
       |some .ret=>vI C.fz ⟨s.ab,s.boxes,aC G' (s.G.length+1) .dead,s.G.length :: s.marks,s.ro,s.n⟩ (K .ret)
       |some (.exit i)=>vI C.fz ⟨s.ab,s.boxes,aC G' (s.G.length+1) .dead,s.G.length :: s.marks,s.ro,s.n⟩ (K (.exit i))
       |_=>none
      else none
     |_=>none)
   |_=>none
  |some id=>match nth s.G id with
   |some (.loop _ _ _ _ _ _ _ _ d0 _)=>match bO C.D.toEnv s.ab g with
    |.v (.fn h first cap)=>Gc C ih jN h (first++[.yield s.G.length]++cap) (s.G++[.loop false none (4096 * p+f) (iX s.ab) s.n ps.toList xm bd d0 false])
     (fun _ G'=>match nth G' s.G.length with
      |some (.loop busy pending _ _ _ _ _ _ _ done)=>bif !busy || done then
        match pending with
        |none=>vI C.fz ⟨s.ab,s.boxes,aC G' s.G.length .dead,s.marks,s.ro,s.n⟩ (K .normal)
        |some .ret=>vI C.fz ⟨s.ab,s.boxes,aC G' s.G.length .dead,s.marks,s.ro,s.n⟩ (K .ret)
        |some (.exit i)=>vI C.fz ⟨s.ab,s.boxes,aC G' s.G.length .dead,s.marks,s.ro,s.n⟩ (K (.exit i))
        |_=>none
       else none
      |_=>none)
    |_=>none
   |_=>none
 |_=>none
def MC:List Oper→List Tmp
 |[]=>[]
 |o :: l=>match o.dst with
  |some d=>d :: MC l
  |none=>MC l
def lM:Code→List Tmp→List Tmp
 |.region _ ops _,r=>MC ops.toList++r
 |.seq x y,r=>lM x (lM y r)
 |.cond _ x y,r=>lM x (lM y r)
 |.block _ c,r=>lM c r
 |.scope c,r=>lM c r
 |.loop c,r=>lM c r
 |.rangeFunc _ ps a b,r=>ps.toList++lM a (lM b r)
 |_,r=>r
def uT (W:List Tmp) (t:dC):dC:=⟨t.ps,t.sl,W,t.bx,t.g,t.lps⟩
def uU (W:List Tmp):List (XK × dC)→List (XK × dC)
 |[]=>[]
 |(k,t) :: l=>(k,uT W t) :: uU W l
def SB:Code→Bool
 |.loop _=>true
 |_=>false
noncomputable def aff {X:Type} (f:FuncId) (p:Nat) (c:Code) (outs:List (XK × dC)) (K:Exit→St→Option X) (s:St):Option X:=
 (DU C ih f p c (JT outs) PZ (wj s outs) s).bind fun o=>YN s outs o K
noncomputable def YR {X:Type} (f:FuncId) (p:Nat) (b:Code) (s1:St) (head:dC) (outs:List (XK × dC)) (K:Exit→St→Option X):Option X:=
 (head.dec s1 s1).bind fun v0=>(aA (fun v=>ih f (2 * p) b (head.ps.T ⊕ JT outs) PZ (YQ s1 head outs) (head.st s1 v)) C.N v0).bind fun o=>YN s1 outs o K
def SC (s:St) (head:dC) (outs:List (XK × dC)) (k:head.ps.T→Option (JT outs)):Exit→St→Option (JT outs)
 |.normal,s'=>(head.dec s s').bind k
 |e,s'=>wj s outs e s'
noncomputable def SD {X:Type} (f:FuncId) (p:Nat) (b:Code) (s1:St) (head:dC) (outs:List (XK × dC)) (K:Exit→St→Option X):Option X:=
 (head.dec s1 s1).bind fun v0=>(gK (fun k v=>ih f (2 * p) b (JT outs) PZ (SC s1 head outs k) (head.st s1 v)) C.N v0).bind fun o=>YN s1 outs o K
def SE {X:Type} (s:St) (head:dC) (K:Exit→St→Option X) (k:head.ps.T→Option X):Exit→St→Option X
 |.normal,s'=>(head.dec s s').bind k
 |e,s'=>K e s'
noncomputable def SF {X:Type} (f:FuncId) (p:Nat) (b:Code) (s1:St) (head:dC) (K:Exit→St→Option X):Option X:=
 (head.dec s1 s1).bind fun v0=>gK (fun k v=>ih f (2 * p) b X PZ (SE s1 head K k) (head.st s1 v)) C.N v0
noncomputable def MD {X:Type} (f:FuncId) (p:Nat) (b:Code) (s1:St) (head:dC) (outs:List (XK × dC)) (t:Tmp) (sz:Nat) (e:TypeId) (K:Exit→St→Option X):Option X:=(fun _ _=>none) C ih
noncomputable def afg {X:Type} (f:FuncId) (p:Nat) (b:Code) (k:List Bool) (s1:St) (head:dC) (outs:List (XK × dC)) (K:Exit→St→Option X):Option X:=(fun _ _=>none) C ih
noncomputable def DV (f:FuncId) (p:Nat) (c:Code) (X:Type) (jN:Option X→Option X→Option X) (K:Exit→St→Option X) (s:St):Option X:=
 match C.HG f p with
 |none=>DU C ih f p c X jN K s
 |some ct=>match Sy s.G.length ct with
  |.join outs=>bif SB c then none else aff C ih f p c (uU (lM c []) outs) K s
  |.loop gh head outs=>match c with
   |.loop b=>match kl gh s with
    |some s1=>YR C ih f p b s1 (uT (lM b []) head) (uU (lM b []) outs) K
    |none=>none
   |_=>none
  |.rot k gh head outs=>match c with
   |.loop b=>match kl gh s with
    |some s1=>afg C ih f p b k s1 (uT (lM b []) head) (uU (lM b []) outs) K
    |none=>none
   |_=>none
  |.gK gh head outs=>match c with
   |.loop b=>match kl gh s with
    |some s1=>SD C ih f p b s1 (uT (lM b []) head) (uU (lM b []) outs) K
    |none=>none
   |_=>none
  |.YO gh head=>match c with
   |.loop b=>match kl gh s with
    |some s1=>SF C ih f p b s1 (uT (lM b []) head) K
    |none=>none
   |_=>none
  |.afe t sz e head outs=>match c with
   |.loop b=>match afd s t sz e with
    |some (cc,s1)=>bif cc then MD C ih f p b s1 (uT (lM b []) head) (uU (lM b []) outs) t sz e K else none
    |none=>none
   |_=>none
  |.alt _ _ _=>none
end
noncomputable def ev (C:km):Nat→EvT:=Nat.rec (fun _ _ _ _ _ _ _=>none) (fun _ ih=>DV C ih)
end Go.Am
namespace Go.Am
open Go
section ext
variable {E:Env} {f:FuncId} {s s':St} {o:Oper}
theorem aU.put (s:St) (d:Option Tmp) (x:SV):aU s (s.put d x):=by
 cases d with
 |none=>exact aU.refl s
 |some d=>
  simp only [St.put];split
  ·exact ⟨⟨[_],rfl⟩,⟨[],rfl⟩,rfl⟩
  ·exact aU.refl s
theorem aU.bM (s:St) (G:List GO):aU s (s.bM G):=⟨⟨[],rfl⟩,⟨[],rfl⟩,rfl⟩
theorem aU.fL (s:St) (o:GO):aU s (s.fL o):=⟨⟨[],rfl⟩,⟨[],rfl⟩,rfl⟩
theorem aU.AZ (s:St) (d:Nat) (cs:List AV):aU s (s.AZ d cs):=⟨⟨[],rfl⟩,⟨[_],rfl⟩,rfl⟩
theorem aU.kill (s:St) (d:Nat):aU s (s.kill d):=⟨⟨[_],rfl⟩,⟨[],rfl⟩,rfl⟩
theorem P0 {c:Bool} {s':St} (h:kR E f s o=some (c,s')):aU s s':=by
 unfold kR at h;cases h
theorem ME {t:TypeId} {p x:SV} {c:Bool} {s':St} (h:iz E s t p x=some (c,s')):aU s s':=by
 have store:∀ {t:TypeId} {p x:SV} {s':St},kj E s t p x=some s'→aU s s':=by
  intro t p x s' h;unfold kj at h
  repeat' (split at h)
  all_goals (first|(cases h; done) | skip)
  all_goals (injection h with h; subst h)
  ·exact aU.AZ _ _ _
  ·exact aU.bM _ _
 unfold iz at h
 repeat' (split at h)
 all_goals (first|(cases h; done) | skip)
 all_goals (injection h with h; injection h with _ h; subst h)
 all_goals (first|exact aU.bM _ _ | exact store (by assumption))
theorem MF {t:TypeId} {p x:SV} {c:Bool} {s':St} (h:nS E s t p x=some (c,s')):aU s s':=by
 unfold nS at h;split at h
 ·rename_i hs;injection h with h; injection h with _ h;subst h;exact (aU.bM s (wR s p x).2.2).trans (ME (s:=s.bM (wR s p x).2.2) hs)
 ·cases h
theorem MG {c:Bool} (h:aq E f s o=some (c,s')):aU s s':=by
 have alloc:∀ {el:TypeId} {cs:List AV} {c:Bool} {s':St},iU E f s o.dst el cs=some (c,s')→aU s s':=by
  intro el cs c s' h;unfold iU at h
  repeat' (split at h)
  all_goals (first|(cases h; done) | skip)
  ·injection h with h; injection h with _ h; subst h; exact (aU.fL _ _).trans (aU.put _ _ _)
  ·injection h with h; injection h with _ h; subst h; exact ((aU.kill _ _).trans (aU.AZ _ _ _)).trans (aU.put _ _ _)
 have store:∀ {t:TypeId} {p x:SV} {s':St},kj E s t p x=some s'→aU s s':=by
  intro t p x s' h;unfold kj at h
  repeat' (split at h)
  all_goals (first|(cases h; done) | skip)
  all_goals (injection h with h; subst h)
  ·exact aU.AZ _ _ _
  ·exact aU.bM _ _
 have aao:∀ {t:TypeId} {p x:SV} {c:Bool} {s':St},iz E s t p x=some (c,s')→aU s s':=by
  intro t p x c s' h;unfold iz at h
  repeat' (split at h)
  all_goals (first|(cases h; done) | skip)
  all_goals (injection h with h; injection h with _ h; subst h)
  all_goals (first|exact aU.bM _ _ | exact store (by assumption))
 have blt:∀ {b:Builtin} {l:List AV} {tys:List TypeId} {c:Bool} {s':St},dG E s o.dst b l tys=some (c,s')→aU s s':=by
  intro b l tys c s' h;unfold dG at h
  repeat' (split at h)
  all_goals (first|(cases h; done) | skip)
  all_goals (injection h with h; injection h with _ h; subst h)
  all_goals (first|exact aU.put _ _ _ | exact (aU.bM _ _).trans (aU.put _ _ _) | exact aU.bM _ _)
 have update:∀ {t:TypeId} {m k x:SV} {s':St},iV E s t m k x=some s'→aU s s':=by
  intro t m k x s' h;unfold iV at h
  repeat' (split at h)
  all_goals (first|(cases h; done) | skip)
  all_goals (injection h with h; subst h; exact aU.bM _ _)
 have next:∀ {x:SV} {s':St},qi s o.dst x=some s'→aU s s':=by
  intro x s' h;unfold qi at h;split at h
  ·split at h
   ·rename_i l pos hg;cases hb:Nat.blt pos l.length <;> rw [hb] at h <;> simp only [cond_true,cond_false] at h <;> cases h
    ·exact aU.put _ _ _
    ·exact (aU.bM _ _).trans (aU.put _ _ _)
   ·cases h
  ·cases h
 have LY:∀ {t:TypeId} {m k:SV} {c:Bool} {v:AV} {s':St},jU E s t m k=some (c,v,s')→aU s s':=by
  intro t m k c v s' h;unfold jU at h
  repeat' (split at h)
  all_goals (first|(cases h; done) | skip)
  all_goals (injection h with h; injection h with _ h; injection h with _ h; subst h; exact aU.bM _ _)
 have LZ:∀ {m st x:SV} {c:Bool} {s':St},gU s m st x=some (c,s')→aU s s':=by
  intro m st x c s' h;unfold gU at h
  repeat' (split at h)
  all_goals (first|(cases h; done) | skip)
  all_goals (injection h with h; injection h with _ h; subst h; exact aU.bM _ _)
 unfold aq sM at h
 repeat' (split at h)
 all_goals (first|(cases h; done) | exact alloc h | exact blt h | (rename_i hf; cases h; exact P0 hf) | skip)
 all_goals (injection h with h; injection h with _ h; subst h)
 all_goals (first|exact aU.put _ _ _ | exact (aU.fL _ _).trans (aU.put _ _ _) | exact (aU.bM _ _).trans (aU.put _ _ _) | skip)
 all_goals (first|exact MF (by assumption) | exact update (by assumption) | exact (LY (by assumption)).trans (aU.put _ _ _) | exact LZ (by assumption) | exact next (by assumption))
theorem eP.jB {g:FuncId} {args YS:List AV} {G:List GO} {Q:AV→List GO→Prop} (hw:ew args YS) (h:eP E g YS G Q):eP E g args G Q:=
 ⟨h.1,fun R w cs hg hl=>h.2 R w cs hg (hw.rel hl)⟩
theorem JF {K:St→Prop} (h:ot E f o K s):ot E f o (fun s'=>K s'∧aU s s') s:=by
 unfold ot at *;split
 ·rename_i x args tys ho;rw [ho] at h;simp only at h;split at h
  ·exact h.mono fun r G' hk=>⟨hk,(aU.bM _ _).trans (aU.put _ _ _)⟩
  ·exact h.mono fun r G' hk=>⟨hk,(aU.bM _ _).trans (aU.put _ _ _)⟩
  ·exact h
 ·rename_i ho;rw [ho] at h;exact h
 ·rename_i nc nd;split at h
  ·rename_i ho;exact absurd ho (nc _ _ _)
  ·exact h.elim
  ·split at h
   ·rename_i c s' hs;obtain ⟨hc,hk⟩:=h.out;exact fU.mk hc ⟨hk,MG hs⟩
   ·exact h.elim
theorem qp {K:St→Prop} {ops:List Oper} (h:dh E f ops o K s):dh E f ops o (fun s'=>K s'∧aU s s') s:=by
 unfold dh at *;split
 ·rename_i hg;rw [hg] at h;exact JF h
 ·rename_i j want hg;rw [hg] at h;simp only at h;split
  ·rename_i hd;rw [hd] at h;exact h
  ·rename_i d hd;rw [hd] at h;simp only at h;split
   ·rename_i b hb;rw [hb] at h;simp only at h;refine ⟨fun e=>?_,fun e=>⟨h.2 e,(aU.put _ _ _).trans (aU.put _ _ _)⟩⟩;exact Ao (JF (h.1 e)) fun s' hh=>⟨hh.1,(aU.put _ _ _).trans hh.2⟩
   ·rename_i hb;rw [hb] at h;exact ⟨h,aU.put _ _ _⟩
   ·rename_i hb oh;split at h
    ·rename_i b QW;exact absurd QW (hb b)
    ·rename_i QW;exact absurd QW oh
    ·exact h
theorem Fq {K K':St→Prop} {ops:List Oper} (h:jK E f ops o K s) (hK:∀ s,K s→K' s):jK E f ops o K' s:=by
 unfold jK at *;split
 ·rename_i s' h1 h2;rw [h1,h2] at h;exact hK _ h
 ·rename_i hn;split at h
  ·rename_i s' h1 h2;exact absurd h2 (hn s' h1)
  ·exact dm h hK
theorem BR {s':St} (h:mV E f s o=some s'):aU s s':=by
 unfold mV at h
 repeat' (split at h)
 all_goals (first|(cases h; done) | skip)
 all_goals (injection h with h; subst h; exact (aU.fL _ _).trans (aU.put _ _ _))
theorem HK {K:St→Prop} {ops:List Oper} (h:jK E f ops o K s):jK E f ops o (fun s'=>K s'∧aU s s') s:=by
 unfold jK at *;split
 ·rename_i s' h1 h2;rw [h1,h2] at h;exact ⟨h,BR h2⟩
 ·rename_i hn;split at h
  ·rename_i s' h1 h2;exact absurd h2 (hn s' h1)
  ·exact qp h
theorem qR {K K':St→Prop} {ops:List Oper} (h:je E f ops o K s) (hK:∀ s,K s→K' s):je E f ops o K' s:=by
 unfold je at *;split at h
 ·obtain ⟨h1,h2⟩:=h.out;exact fU.mk h1 (hK _ h2)
 ·obtain ⟨h1,h2,h3⟩:=h.out;exact fU.mk h1 ⟨fun e=>hK _ (h2 e),fun i hi=>let ⟨k1,k2⟩:=(h3 i hi).out; fU.mk k1 (hK _ k2)⟩
 ·exact Fq h hK
theorem MH {c:Bool} {s':St} (h:wS E f s o=some (c,s')):aU s s':=by
 unfold wS at h
 repeat' (split at h)
 all_goals (first|(cases h; done) | skip)
 all_goals (injection h with h; injection h with _ h; subst h; exact (aU.bM _ _).trans (aU.put _ _ _))
theorem SG {c:Bool} {s':St} (h:Lc E f s o=some (c,s')):aU s s':=by
 unfold Lc at h
 repeat' (split at h)
 all_goals (first|(cases h; done) | skip)
 all_goals (injection h with h; injection h with _ h; subst h; exact (aU.bM _ _).trans (aU.put _ _ _))
theorem P1 {c:Bool} {s':St} (h:A2 E f s o=some (c,s')):aU s s':=by
 unfold A2 at h;split at h
 ·rename_i r hr;cases h;exact SG hr
 ·exact MH h
theorem MI {c:Bool} {s0:St} {left:List Nat} {g:Nat→Bool × St} (h:zT E s o=some (c,s0,left,g)):aU s s0∧∀ i,aU s (g i).2:=by
 unfold zT at h;split at h
 ·unfold Fz at h;split at h
  ·split at h
   ·split at h
    ·cases h;exact ⟨aU.put _ _ _,fun i=>(aU.bM _ _).trans (aU.put _ _ _)⟩
    ·cases h
   ·cases h
  ·cases h
 ·cases h
theorem yK {K:St→Prop} {ops:List Oper} (h:je E f ops o K s):je E f ops o (fun s'=>K s'∧aU s s') s:=by
 unfold je at *;split at h
 ·rename_i hb;obtain ⟨h1,h2⟩:=h.out;exact fU.mk h1 ⟨h2,P1 hb⟩
 ·rename_i hb;obtain ⟨h1,h2,h3⟩:=h.out;obtain ⟨k1,k2⟩:=MI hb;exact fU.mk h1 ⟨fun e=>⟨h2 e,k1⟩,fun i hi=>let ⟨q1,q2⟩:=(h3 i hi).out; fU.mk q1 ⟨q2,k2 i⟩⟩
 ·exact HK h
theorem qS {K K':St→Prop} {ops:List Oper} (h:jf E f ops o K s) (hK:∀ s,K s→K' s):jf E f ops o K' s:=by
 unfold jf at *;split at h
 ·exact ⟨h.1,qR h.2 hK⟩
 ·exact qR h hK
theorem k9 {cut wk:Bool}:∀ {l:List Operand} {s s':St} {c:Bool},kD cut wk l s=(c,s')→aU s s'
 |[],s,s',c,h=>by
  simp only [kD] at h;cases h;exact aU.refl _
 |.tmp t :: l,s,s',c,h=>by
  unfold kD at h;split at h
  ·rename_i c1 s1 h1;cases h2:kD cut wk l s1 with
   |mk c2 s2=>
   rw [h2] at h;simp only [Prod.mk.injEq] at h;obtain ⟨_,rfl⟩:=h;exact (mY h1).trans (k9 h2)
  ·exact k9 h
 |.const _ :: l,s,s',c,h=>k9 (l:=l) h
 |.global _ :: l,s,s',c,h=>k9 (l:=l) h
 |.func _ :: l,s,s',c,h=>k9 (l:=l) h
theorem SH {s s':St} {o:Oper} {c:Bool} (h:Pc E f s o=some (c,s')):aU s s':=by
 unfold Pc at h;split at h
 ·split at h
  ·injection h with h;exact k9 h
  ·cases h
 ·cases h
theorem HL {K:St→Prop} {ops:List Oper} (h:jf E f ops o K s):jf E f ops o (fun s'=>K s'∧aU s s') s:=by
 unfold jf at *;split at h
 ·rename_i c s' hz;exact ⟨h.1,qR (yK h.2) fun s2 h2=>⟨h2.1,(SH hz).trans h2.2⟩⟩
 ·exact yK h
theorem DW {s s':St} {l:Loc} {sz:Nat} {e:TypeId} (h:Ak s l sz e=some s'):aU s s':=by
 unfold Ak at h;split at h
 ·cases h; exact aU.fL _ _
 unfold yq at h;cases LS:Nat.ble 196608 sz with
 |true=>rw [LS] at h; cases h; exact aU.fL _ _
 |false=>
 rw [LS] at h;cases l with
 |slot t=>
  simp only at h;split at h
  ·cases h; exact ⟨⟨[_],rfl⟩,⟨[],rfl⟩,rfl⟩
  ·cases h
 |box k i=>
  simp only at h;split at h
  ·split at h
   ·cases h; exact ⟨⟨[],rfl⟩,⟨[_],rfl⟩,rfl⟩
   ·cases h
  ·cases h
 |row id i=>
  simp only at h;split at h
  ·split at h
   ·cases h; exact ⟨⟨[],rfl⟩,⟨[],rfl⟩,rfl⟩
   ·cases h
  ·cases h
theorem th:∀ {l:List (Loc × Nat × TypeId)} {s s':St},kl l s=some s'→aU s s'
 |[],s,s',h=>by
  simp only [kl] at h;cases h;exact aU.refl _
 |(l,sz,e) :: r,s,s',h=>by
  unfold kl at h;split at h
  ·rename_i s1 h1;exact (DW h1).trans (th h)
  ·cases h
theorem uV:∀ {l:List (Loc × Nat × TypeId)} {s:St},aU s (mO l s)
 |[],s=>aU.refl _
 |(l,sz,e) :: r,s=>by
  unfold mO;split
  ·rename_i s1 h1;exact (DW h1).trans uV
  ·exact uV
theorem P2 {s s':St} {o:Oper} {c:Bool} (h:FU E f o s=some (c,s')):aU s s':=by
 unfold FU at h;split at h
 ·cases h; exact aU.refl _
 ·split at h
  ·exact mY h
  ·split at h
   ·cases h; exact aU.refl _
   ·split at h
    ·exact I3 h
    ·split at h
     ·cases h; exact uV
     ·cases h
theorem DX {K K':St→Prop} {ops:List Oper} (hK:∀ s,K s→K' s):∀ {l:List Oper} {s:St},uE E f ops l K s→uE E f ops l K' s
 |[],s,h=>hK s h
 |_ :: _,_,h=>qS h fun s' h'=>by
  unfold FW at *;split at h'
  ·exact ⟨h'.1,DX hK h'.2⟩
  ·exact h'.elim
theorem DY {K K':St→Prop} {ops:List Oper} (hK:∀ s,K s→K' s) {T:DT} {s:St} (h:zO E f ops T K s):zO E f ops T K' s:=
 jm (ops:=⟨ops⟩) hK T s h
theorem Ge {K:St→Prop} {ops:List Oper}:∀ {l:List Oper} {s:St},uE E f ops l K s→uE E f ops l (fun s'=>K s'∧aU s s') s
 |[],s,h=>⟨h,aU.refl s⟩
 |o :: l,s,h=>by
  simp only [uE] at *;refine qS (HL h) fun s' hh=>?_
  obtain ⟨h1,h2⟩:=hh;unfold FW at *;split at h1
  ·rename_i c s2 hp;exact ⟨h1.1,DX (fun s3 h3=>⟨h3.1,(h2.trans (P2 hp)).trans h3.2⟩) (Ge h1.2)⟩
  ·exact h1.elim
theorem yM {K:St→Prop} {ops:List Oper}:∀ {T:DT} {s:St},zO E f ops T K s→zO E f ops T (fun s'=>K s'∧aU s s') s
 |.done,s,h=>⟨h,aU.refl s⟩
 |.stop,_,_=>trivial
 |.take j C T,s,h=>by
  unfold zO at h ⊢;split
  ·rename_i oj hj;rw [hj] at h;exact dm (qp h) fun s' hh=>DY (fun s2 h2=>⟨h2.1,hh.2.trans h2.2⟩) (yM hh.1)
  ·rename_i hj;rw [hj] at h;exact h
 |.al j W T,s,h=>by
  unfold zO at h ⊢;split
  ·rename_i oj hj;rw [hj] at h;exact ⟨h.1,dm (qp h.2) fun s' hh=>DY (fun s2 h2=>⟨h2.1,hh.2.trans h2.2⟩) (yM hh.1)⟩
  ·rename_i hj;rw [hj] at h;exact h
 |.br i re C T more,s,h=>by
  unfold zO at h ⊢;refine ⟨?_,yM h.2⟩;have h:=h.1;split
  ·rename_i oj hj;rw [hj] at h;exact dm (qp h) fun s' hh=>⟨hh.1.1,DY (fun s2 h2=>⟨h2.1,hh.2.trans h2.2⟩) (yM hh.1.2)⟩
  ·rename_i hj;rw [hj] at h;exact h
end ext
def BT (E:Env) (c:Code) (Q:Exit→St→Prop) (s:St):Prop:=jv E c (fun e s'=>Q e s'∧aU s s') s
section sound
variable {E:Env} {f:FuncId} {s:St} {X:Type} {fz:Bool} {call:uR X} {qo:qQ X} {jN:Option X→Option X→Option X} {x:X}
def tj (E:Env) (call:uR X):Prop:=∀ g args G K x,call g args G K=some x→eP E g args G (fun r G'=>K r G'=some x)
def Bp (E:Env) (qo:qQ X):Prop:=∀ id args G K x,qo id args G K=some x→pg E id args G (fun b G'=>K b G'=some x)
theorem bo {α:Type} {c:Bool} {a:Option α} {x:α} (h:(bif c then a else none)=some x):c=true∧a=some x:=by
 cases c
 ·cases h
 ·exact ⟨rfl,h⟩
theorem bind_some {α β:Type} {a:Option α} {k:α→Option β} {x:β} (h:a.bind k=some x):∃ y,a=some y∧k y=some x:=by
 cases a with
 |none=>cases h
 |some y=>exact ⟨y,rfl,h⟩
theorem P3 {o:Oper} {n:Int} {len:Nat} {g:Nat→Oper} (h:HH E s o=some (n,len,g)) {j:Nat} (hj:n=(j:Int)):aq E f s (g j)=aq E f s o:=by
 subst hj;unfold HH at h;have ZR:∀ k:IntKind,bO E s.ab (.const (.int k (j:Int)))=.v (.int k j):=fun k=>rfl
 split at h
 ·rename_i t x y ho;split at h
  ·rename_i k n i h1 h2;split at h
   ·injection h with h; injection h with e1 h; injection h with e2 h;subst h; subst e1;simp only [aq,ho,ZR,h1]
   ·cases h
  ·cases h
 ·rename_i t x y ho;split at h
  ·rename_i k n i h1 h2;split at h
   ·split at h
    ·split at h
     ·cases h
     ·injection h with h; injection h with e1 h; injection h with e2 h;subst h; subst e1;simp only [aq,ho,ZR,h1]
    ·injection h with h; injection h with e1 h; injection h with e2 h;subst h; subst e1;simp only [aq,ho,ZR,h1]
   ·cases h
  ·cases h
 ·cases h
theorem wH {o:Oper} {n:Int} {len:Nat} {g:Nat→Oper} (hi:HH E s o=some (n,len,g)) {K:St→Option X}:∀ (m j:Nat),Cf E fz f g n K s m j=some x→∃ c s',aq E f s o=some (c,s')∧c=true∧K s'=some x
 |0,_,h=>by cases h
 |m+1,j,h=>by
  unfold Cf at h;by_cases hn:n=(j:Int)
  ·rw [decide_eq_true hn,cond_true,P3 hi hn] at h;split at h
   ·rename_i c s' hs;obtain ⟨h1,h2⟩:=bo h;rw [eD] at h2;exact ⟨c,s',hs,h1,h2⟩
   ·cases h
  ·rw [decide_eq_false hn,cond_false] at h;exact wH hi m (j+1) h
theorem DZ {ops:List Oper} {o:Oper} (h:aaO E f ops o s=true):Mb E f ops o s:=by
 unfold aaO at h;split at h
 ·rename_i t m k ok d ho hd;split at h
  ·rename_i c v b hg hs;rw [aaa] at h;obtain ⟨rfl,h⟩:=h;have hn:=yG hs;unfold Mb;rw [hg];simp only;have e:aq E f s o=some (true,s.put o.dst (.v (if ok then .bW [v,.bool b] else v))):=by simp only [aq,ho,hn]
   rw [hd] at e;rw [hd,e];refine ⟨rfl,?_⟩;unfold St.put;simp only;split
   ·rw [aN];exact F5 h
   ·rfl
  ·exact F6 h
 ·exact F6 h
theorem wI {ops:List Oper}:∀ {l:List Nat} {s:St},vJ E f ops l s=true→F1 E f ops l s
 |[],_,_=>trivial
 |k :: l,s,h=>by
  unfold vJ at h;unfold F1;rw [aaa] at h;refine ⟨?_,wI h.2⟩;have h:=h.1;split at h
  ·rename_i hk
   first
    |exact DZ h
    |rw [hk]; exact DZ h
  ·rename_i hk
   first
    |trivial
    |rw [hk]; trivial
theorem Aw (hc:tj E call) (hr:Bp E qo) {o:Oper} {K:St→Option X} (h:oOp E fz call qo f o K s=some x):ot E f o (fun s=>K s=some x) s:=by
 unfold ot;split
 ·rename_i y args tys ho;unfold oOp at h;rw [ho] at h;simp only at h;split at h
  ·rename_i h1 h2;rw [h1,h2];refine (hc _ _ _ _ _ h).mono fun r G' hk=>?_
   rw [eD] at hk;exact hk
  ·rename_i h1 h2;rw [h1,h2];refine (hr _ _ _ _ _ h).mono fun r G' hk=>?_
   rw [eD] at hk;exact hk
  ·cases h
 ·rename_i ho;unfold oOp at h;rw [ho] at h;cases h
 ·rename_i nc nd;unfold oOp at h;split at h
  ·rename_i ho;exact absurd ho (nc _ _ _)
  ·cases h
  ·rename_i y ho;split at h
   ·rename_i b s1 s2 hs;have hn:=Mw hs;have e:aq E f s o=some (true,bif b then s1 else s2):=by simp only [aq,ho,hn]
    rw [e];refine fU.mk rfl ?_;rw [eD,eD] at h;cases b <;> exact h
   ·cases h
  ·rename_i t m k ok ho;split at h
   ·rename_i c v b hs;obtain ⟨h1,h2⟩:=bo h;subst h1;rw [eD] at h2;have hn:=yG hs;have e:aq E f s o=some (true,s.put o.dst (.v (if ok then .bW [v,.bool b] else v))):=by simp only [aq,ho,hn]
    rw [e];exact fU.mk rfl h2
   ·split at h
    ·rename_i c s' hs;obtain ⟨h1,h2⟩:=bo h;rw [eD] at h2;rw [hs];exact fU.mk h1 h2
    ·cases h
  ·rename_i t m k z ho;split at h
   ·rename_i c s' hd hs;obtain ⟨h1,h2⟩:=bo h;subst h1;rw [eD] at h2;have hn:=yH hs;have e:aq E f s o=some (true,s'):=by simp only [aq,ho,hd,hn]
    rw [e];exact fU.mk rfl h2
   ·cases h
  ·rename_i t m k z ho;split at h
   ·rename_i c s' hd hs;obtain ⟨h1,h2⟩:=bo h;subst h1;rw [eD] at h2;have hn:=yH hs;have e:aq E f s o=some (true,s'):=by simp only [aq,ho,hd,hn]
    rw [e];exact fU.mk rfl h2
   ·cases h
  ·rename_i args tys ho;split at h
   ·rename_i c s' hf;obtain ⟨h1,h2⟩:=bo h;rw [eD] at h2;have e:aq E f s o=some (c,s'):=by simp only [aq,ho,hf]
    rw [e];exact fU.mk h1 h2
   ·rename_i hf;split at h
    ·rename_i l hl;split at h
     ·rename_i b s1 c s2 hs;have NN:b=false→c=true:=fun e=>by subst e; exact (bo (show (bif c then vI fz s2 K else none)=some x from h)).1
      have hn:=HD hs NN;have e:aq E f s o=some (true,bif b then s1 else s2):=by simp only [aq,ho,hf,hl,hn]
      rw [e];refine fU.mk rfl ?_;cases b with
      |true=>
       show K s1=some x;rw [← eD fz s1 K];exact h
      |false=>
       obtain ⟨h1,h2⟩:=bo (show (bif c then vI fz s2 K else none)=some x from h);rw [eD] at h2;exact h2
     ·split at h
      ·rename_i c s' hs;obtain ⟨h1,h2⟩:=bo h;rw [eD] at h2;rw [hs];exact fU.mk h1 h2
      ·cases h
    ·cases h
  ·rename_i args tys ho;split at h
   ·rename_i l hl;split at h
    ·rename_i c s' hs;obtain ⟨h1,h2⟩:=bo h;subst h1;rw [eD] at h2;have hn:=Mx hs;have hf:kR E f s o=none:=by
      cases hf:kR E f s o with
      |none=>rfl
      |some r=>
       obtain ⟨_,_,h2⟩:=yy hf;rw [ho] at h2;cases h2
     have e:aq E f s o=some (true,s'):=by simp only [aq,ho,hf,hl,hn]
     rw [e];exact fU.mk rfl h2
    ·split at h
     ·rename_i c s' hs;obtain ⟨h1,h2⟩:=bo h;rw [eD] at h2;rw [hs];exact fU.mk h1 h2
     ·cases h
   ·cases h
  ·split at h
   ·rename_i n len g hi;obtain ⟨c,s',hs,h1,h2⟩:=wH hi _ _ h;rw [hs];exact fU.mk h1 h2
   ·split at h
    ·rename_i c s' hs;obtain ⟨h1,h2⟩:=bo h;rw [eD] at h2;rw [hs];exact fU.mk h1 h2
    ·cases h
theorem oz (hc:tj E call) (hr:Bp E qo) {ops:List Oper} {o:Oper} {K:St→Option X} (h:uS E fz call qo f ops o K s=some x):dh E f ops o (fun s=>K s=some x) s:=by
 unfold uS at h;unfold dh;split at h
 ·rename_i hg;rw [hg];exact Aw hc hr h
 ·rename_i j want hg;rw [hg];simp only;split at h
  ·cases h
  ·rename_i d hd;rw [hd];simp only;split at h
   ·rename_i b hb;rw [hb];simp only;cases want with
    |true=>
     simp only at h;rw [eD,eD] at h;refine ⟨fun e=>?_,fun e=>?_⟩
     ·subst e;exact Aw hc hr h
     ·have e:b=false:=by simpa using e
      subst e;exact h
    |false=>
     simp only at h;rw [eD,eD] at h;refine ⟨fun e=>?_,fun e=>?_⟩
     ·subst e;exact Aw hc hr h
     ·have e:b=true:=by simpa using e
      subst e;exact h
   ·rename_i hb;rw [hb];rw [eD] at h;exact h
   ·cases h
theorem Fs (hc:tj E call) (hr:Bp E qo) {ops:List Oper} {o:Oper} {K:St→Option X} (h:HI E fz call qo f ops o K s=some x):jK E f ops o (fun s=>K s=some x) s:=by
 unfold HI at h;unfold jK;split at h
 ·rename_i s' h1 h2;rw [h1,h2];rw [eD] at h;exact h
 ·rename_i hn;split
  ·rename_i s' h1 h2;exact absurd h2 (hn s' h1)
  ·exact oz hc hr h
theorem wJ (hc:tj E call) (hr:Bp E qo) {ops:List Oper} {o:Oper} {K:St→Option X} (h:Cg E fz call qo f ops o K s=some x):je E f ops o (fun s=>K s=some x) s:=by
 unfold Cg at h;unfold je;split at h
 ·rename_i c s' h1 h2;rw [h1,h2];obtain ⟨q1,q2⟩:=bo h;rw [eD] at q2;exact fU.mk q1 q2
 ·rename_i c s0 left g h1 h2 h3;rw [h1,h2,h3];obtain ⟨q1,q2⟩:=bo h;refine fU.mk q1 ?_;cases left with
  |nil=>
   simp only [List.isEmpty_nil,cond_true,eD] at q2;exact ⟨fun _=>q2,fun i hi=>by simp at hi⟩
  |cons i0 l=>
   simp only [List.isEmpty_cons,cond_false] at q2;refine ⟨fun e=>(by cases e),fun i hi=>?_⟩;obtain ⟨r1,r2⟩:=bo (PY q2 i hi);rw [eD] at r2;exact fU.mk r1 r2
 ·rename_i Pl hn2;split
  ·rename_i c s' h1 h2
   first
    |exact absurd h2 (Pl c s' h1)
    |exact absurd h2 (hn2 c s' h1)
  ·rename_i c s0 left g h1 h2 h3
   first
    |exact absurd h3 (hn2 c s0 left g h1 h2)
    |exact absurd h3 (Pl c s0 left g h1 h2)
  ·exact Fs hc hr h
theorem Ft (hc:tj E call) (hr:Bp E qo) {ops:List Oper} {o:Oper} {K:St→Option X} (h:HJ E fz call qo f ops o K s=some x):jf E f ops o (fun s=>K s=some x) s:=by
 unfold HJ at h;unfold jf;split at h
 ·rename_i c s' hz;rw [hz];obtain ⟨h1,h2⟩:=bo h;exact ⟨h1,wJ hc hr h2⟩
 ·rename_i hz;rw [hz];exact wJ hc hr h
theorem D0 (hc:tj E call) (hr:Bp E qo) {ops:List Oper}:∀ {l:List Oper} {K:St→Option X} {s:St},VI E fz call qo f ops l K s=some x→uE E f ops l (fun s=>K s=some x) s
 |[],_,_,h=>h
 |o :: l,K,s,h=>by
  unfold VI at h;unfold uE;refine qS (Ft hc hr h) fun s' h'=>?_
  unfold FW;split at h'
  ·rename_i c s2 hp;rw [hp];cases c with
   |true=>exact ⟨rfl,D0 hc hr h'⟩
   |false=>cases h'
  ·cases h'
theorem np (hc:tj E call) (hr:Bp E qo) (hm:Bo jN) {ops:List Oper}:∀ {T:DT} {K:St→Option X} {s:St} {x:X},oT E fz call qo jN f ops T K s=some x→zO E f ops T (fun s=>K s=some x) s
 |.done,_,_,_,h=>h
 |.stop,_,_,_,_=>trivial
 |.take j C T,K,s,x,h=>by
  unfold oT at h;unfold zO;split at h
  ·rename_i hk;rw [hk];exact dm (oz hc hr h) fun s' h'=>np hc hr hm h'
  ·cases h
 |.al j W T,K,s,x,h=>by
  unfold oT at h;unfold zO;split at h
  ·rename_i hk;obtain ⟨h1,h2⟩:=bo h;rw [hk];exact ⟨h1,dm (oz hc hr h2) fun s' h'=>np hc hr hm h'⟩
  ·cases h
 |.br i re C T more,K,s,x,h=>by
  have first:∀ {x:X},(match nth ops i with
   |some oi=>uS E fz call qo f ops oi (fun s'=>bif vJ E f ops re s' then oT E fz call qo jN f ops T K s' else none) s
   |none=>none)=some x→(match nth ops i with
   |some oi=>dh E f ops oi (fun s'=>F1 E f ops re s'∧zO E f ops T (fun s=>K s=some x) s') s
   |none=>False):=by
   intro x h;split at h
   ·rename_i hk;refine dm (oz hc hr h) fun s' h'=>?_
    obtain ⟨h1,h2⟩:=bo h';exact ⟨wI h1,np hc hr hm h2⟩
   ·cases h
  unfold zO;cases more with
  |stop=>exact ⟨first h,trivial⟩
  |done=>obtain ⟨h1,h2⟩:=hm _ _ _ h; exact ⟨first h1,np (T:=.done) hc hr hm h2⟩
  |take a b c=>obtain ⟨h1,h2⟩:=hm _ _ _ h; exact ⟨first h1,np hc hr hm h2⟩
  |br a b c d e=>obtain ⟨h1,h2⟩:=hm _ _ _ h; exact ⟨first h1,np hc hr hm h2⟩
  |al a b c=>obtain ⟨h1,h2⟩:=hm _ _ _ h; exact ⟨first h1,np hc hr hm h2⟩
end sound
end Go.Am
namespace Go.Am
open Go
section
variable {C:km} {ih:EvT}
def HM (C:km) (ih:EvT):Prop:=∀ (f:FuncId) (p:Nat) (c:Code) (X:Type) (jN:Option X→Option X→Option X),Bo jN→∀ (K:Exit→St→Option X) (s:St) (x:X),
 dL (C.D.dt f) c=true→ih f p c X jN K s=some x→BT C.D.toEnv c (fun e s'=>K e s'=some x) s
theorem Ax {X:Type}:Bo (PZ (X:=X)):=fun a b x h=>by
 unfold PZ at h;by_cases e:a=b
 ·rw [if_pos e] at h;exact ⟨h,e ▸ h⟩
 ·rw [if_neg e] at h;cases h
theorem qt (hs:HM C ih) {X:Type} {jN:Option X→Option X→Option X} (hm:Bo jN):tj C.D.toEnv (Gb C ih jN):=fun g args G K x h=>by
 unfold Gb at h;obtain ⟨fQ,h⟩:=bo h;split at h
 ·rename_i fn hfn;split at h
  ·rename_i b hb;obtain ⟨hn,h⟩:=bo h;have fin:∀ {K':AV→List GO→Option X},ih g 1 b X jN (SA C.D.toEnv fn K') (St.init fn.ntmps args G)=some x→eP C.D.toEnv g args G (fun r G'=>K' r G'=some x):=by
    intro K' h;refine eP.intro hfn hb (by simpa using hn) ((hs g 1 b X jN hm _ _ x (C.D.YA g fn b fQ hfn hb) h).mono fun e s' hq=>?_);have hq:=hq.1;unfold SA at hq;unfold Yx;cases e <;> first | (cases hq; done) | skip
    all_goals (simp only at hq ⊢)
    all_goals (split at hq <;> first | (cases hq; done) | skip)
    all_goals (rename_i hl; rw [hl]; simp only)
    all_goals (split at hq <;> first | (cases hq; done) | skip)
    all_goals (rename_i Vy; rw [Vy]; exact hq)
   cases hfz:C.D.E0 g 131072 with
   |true=>rw [hfz] at h; exact eP.frz (fin h)
   |false=>rw [hfz] at h; exact fin h
  ·cases h
 ·cases h
theorem JG (HN:∀ g e,C.PX g=some e→aJ C.D.toEnv g e) (hs:HM C ih) {X:Type} {jN:Option X→Option X→Option X} (hm:Bo jN):tj C.D.toEnv (Gc C ih jN):=fun g args G K x h=>by
 unfold Gc at h;split at h
 ·rename_i e he;obtain ⟨a,ha,h⟩:=bind_some h;obtain ⟨y,hy,h⟩:=bind_some h;refine eP.jB (e.ps.wU ha).1 (((HN g e he a y hy) G).mono fun r G' hr=>?_);obtain ⟨rfl,rfl⟩:=hr;exact h
 ·split at h
  ·rename_i e he;split at h
   ·rename_i c r G' hf;obtain ⟨hc,h⟩:=bo h;subst hc;refine (e.ok args G r G' hf).mono fun r' N7 hh=>?_
    obtain ⟨rfl,rfl⟩:=hh;exact h
   ·cases h
  ·split at h
   ·rename_i e he;obtain ⟨a,ha,h⟩:=bind_some h;obtain ⟨y,hy,h⟩:=bind_some h;refine eP.jB (e.ps.wU ha).1 ((e.ok a y hy G).mono fun r G' hr=>?_);obtain ⟨z,rfl,hr⟩:=hr;exact (JD e.outs z hr).trans h
   ·exact qt hs hm g args G K x h
theorem JH {n:Nat}:∀ {l:List Tmp},VJ n l=true→∀ t∈l,t < n
 |[],_,t,ht=>by simp at ht
 |a :: l,h,t,ht=>by
  simp only [VJ,aaa] at h;rcases abp.1 ht with rfl|ht
  ·exact kL h.1
  ·exact JH h.2 t ht
theorem MJ (hs:HM C ih) {X:Type} {jN:Option X→Option X→Option X} (hm:Bo jN):Bp C.D.toEnv (VK C ih jN):=fun id args G K x h=>by
 unfold VK at h;split at h
 ·rename_i p fp sl n ps xm bd d hG;obtain ⟨hc,h⟩:=bo h;simp only [aaa] at hc;obtain ⟨⟨⟨h1,h2⟩,h3⟩,h4⟩:=hc;refine pg.intro hG (aag h1) (JH h2) ((hs _ _ xm X jN hm _ _ x h3 h).mono fun e s1 hq=>?_);have hq:=hq.1;unfold Hz;cases e with
  |normal=>
   simp only at hq ⊢;split at hq
   ·rename_i p' fn sl' n' ps' VG bd' d' hG1;rw [hG1];simp only;refine (hs _ _ bd X jN hm _ _ x h4 hq).mono fun e2 s2 sT=>?_
    have sT:MB id K e2 s2=some x:=sT.1;unfold MB at sT;unfold Mt;split at sT
    ·rename_i hG2;rw [hG2];cases e2 <;> first | (cases sT; done) | exact sT
    ·cases sT
   ·cases hq
  |_=>cases hq
 ·cases h
theorem BT.of {E:Env} {c:Code} {Q Q':Exit→St→Prop} {s:St} (h:BT E c Q s) (hq:∀ e s',Q e s'→aU s s'→Q' e s'):jv E c Q' s:=
 jv.mono h fun e s' hh=>hq e s' hh.1 hh.2
theorem Ch {s s':St} {e:Exit}:∀ {outs:List (XK × dC)} {o:JT outs},wj s outs e s'=some o→∃ (t:dC) (v:t.ps.T),t.dec s s'=some v∧∀ (α:Type) (K:Exit→St→α),YN s outs o K=K e (t.st s v)
 |[],o,h=>by cases h
 |[x],o,h=>by
  obtain ⟨h1,h2⟩:=bo (show (bif x.1.is e then x.2.dec s s' else none)=some o from h);exact ⟨x.2,o,h2,fun _ K=>by rw [XK.N3 h1]; rfl⟩
 |x :: y :: l,o,h=>by
  have h:(bif x.1.is e then (x.2.dec s s').bind fun v=>some (.inl v) else (wj s (y :: l) e s').bind fun o=>some (.inr o))=some o:=h;cases hx:x.1.is e with
  |true=>
   rw [hx] at h;obtain ⟨v,h1,h2⟩:=bind_some h;cases h2;exact ⟨x.2,v,h1,fun _ K=>by rw [XK.N3 hx]; rfl⟩
  |false=>
   rw [hx] at h;obtain ⟨v,h1,h2⟩:=bind_some h;cases h2;obtain ⟨t,u,k1,k2⟩:=Ch h1;exact ⟨t,u,k1,fun α K=>k2 α K⟩
theorem dC.Ay (t:dC) (s:St) (v:t.ps.T):aU s (t.st s v):=by
 have h1:∀ (W:List Tmp) (b:bz),∃ pre,DC W b=pre++b:=fun W b=>by
  induction W with
  |nil=>exact ⟨[],rfl⟩
  |cons t W ih=>obtain ⟨p,hp⟩:=ih; exact ⟨.put t .none :: p,by simp [DC,hp]⟩
 have h2:∀ (ts:List Tmp) (l:List AV) (b:bz),∃ pre,uM ts l b=pre++b:=fun ts=>by
  induction ts with
  |nil=>intro l b; exact ⟨[],by cases l <;> rfl⟩
  |cons t ts ih=>
   intro l b;cases l with
   |nil=>exact ⟨[],rfl⟩
   |cons a l=>obtain ⟨p,hp⟩:=ih l b; exact ⟨.put t (.v a) :: p,by simp [uM,hp]⟩
 have h3:∀ (bx:List (Nat × Nat)) (l:List AV) (b:dX),∃ pre,Bl bx l b=pre++b:=fun bx=>by
  induction bx with
  |nil=>intro l b; exact ⟨[],rfl⟩
  |cons x bx ih=>
   obtain ⟨k,n⟩:=x;intro l b;obtain ⟨p,hp⟩:=ih (l.drop n) b;exact ⟨(k,l.take n) :: p,by simp [Bl,hp]⟩
 have h4:∀ (l:List (Tmp × Nat × Nat)) (b:bz),∃ pre,uN l b=pre++b:=fun l b=>by
  induction l with
  |nil=>exact ⟨[],rfl⟩
  |cons x l ih=>obtain ⟨t,k,o⟩:=x; obtain ⟨p,hp⟩:=ih; exact ⟨.put t (.lp k o) :: p,by simp [uN,hp]⟩
 obtain ⟨p1,e1⟩:=h1 t.W s.ab;obtain ⟨p2,e2⟩:=h2 t.sl (t.wi v) (DC t.W s.ab);obtain ⟨p3,e3⟩:=h3 t.bx ((t.wi v).drop t.sl.length) s.boxes;obtain ⟨p4,e4⟩:=h4 t.lps (p2++(p1++s.ab));exact ⟨⟨p4++(p2++p1),by rw [show (t.st s v).ab=uN t.lps (uM t.sl (t.wi v) (DC t.W s.ab)) from rfl,e2,e1,e4,List.append_assoc,List.append_assoc]⟩,⟨p3,e3⟩,rfl⟩
theorem jv.afh {E:Env} {c:Code} {s s1:St} {gh:List (Loc × Nat × TypeId)} {head:dC} {outs:List (XK × dC)} {rd:head.ps.T→Option (head.ps.T ⊕ JT outs)} {N:Nat} {v0:head.ps.T} {o:JT outs} {Q:Exit→St→Prop}
  (hg:Am.kl gh s=some s1) (h0:head.dec s1 s1=some v0) (hr:∀ v r,rd v=some r→BT E c (fun e s'=>YQ s1 head outs e s'=some r) (head.st s1 v))
  (hl:aA rd N v0=some o) (hQ:∀ (t:dC) (v:t.ps.T) (e:Exit),(∀ (α:Type) (K:Exit→St→α),YN s1 outs o K=K e (t.st s1 v))→Q e (t.st s1 v)∧aU s (t.st s1 v)) :
  BT E (.loop c) Q s:=fun R0 w β a F hr0 B6=>by
 obtain ⟨R,k1,k2,k3,_⟩:=pf hr0 hg;have hf:cT R s1.ro F:=by rw [k3]; exact B6.mono k2.ext
 obtain ⟨i1,i2⟩:=dC.KW (aU.refl s1) k1 k1 (Step.refl R w β s1.boxes) h0;refine s5 (fun m a' w'=>∃ v R' β',aA rd m v=some o∧bi E R' w' β' (head.st s1 v) a'∧Step R w β s1.boxes R' w' β' (head.st s1 v).boxes) ?_ ⟨v0,_,β,hl,i1,i2⟩;rintro m a' w' ⟨v,R',β',hm,mW,lI⟩;cases m with
 |zero=>cases hm
 |succ m=>
  obtain ⟨r,h1,h2⟩:=bind_some (show ((rd v).bind fun o=>Sum.elim (fun v'=>aA rd m v') (fun x=>some x) o)=some o from hm);refine wpIn_mono (hr v r h1 R' w' β' a' F mW (hf.mono lI.ext)) ?_;rintro e a2 w2 ⟨s2,R2,β2,⟨hK,hx⟩,I6,MK,JB⟩;have ML:aU s1 s2:=(head.Ay s1 v).trans hx;have QY:=lI.trans MK;have out:∀ {u:JT outs},wj s1 outs e s2=some u→r=.inr u→Res E R0 w β s (fun e s'=>Q e s'∧aU s s') e a2 w2:=fun {u} hu hru=>by
   subst hru;cases h2;obtain ⟨t,v',q1,q2⟩:=Ch hu;obtain ⟨j1,j2⟩:=dC.KW ML k1 I6 QY q1;exact ⟨t.st s1 v',_,β2,hQ t v' e q2,j1,k2.trans j2,k3⟩
  cases e with
  |normal=>
   obtain ⟨v',q1,q2⟩:=bind_some (show ((head.dec s1 s2).bind fun v=>some (.inl v))=some r from hK);cases q2;obtain ⟨j1,j2⟩:=dC.KW ML k1 I6 QY q1;exact ⟨m,aaG m,v',_,β2,h2,j1,j2⟩
  |exit i=>obtain ⟨u,q1,q2⟩:=bind_some (show ((wj s1 outs (.exit i) s2).bind fun o=>some (.inr o))=some r from hK); exact out q1 (aaN q2).symm
  |ret=>obtain ⟨u,q1,q2⟩:=bind_some (show ((wj s1 outs .ret s2).bind fun o=>some (.inr o))=some r from hK); exact out q1 (aaN q2).symm
  |goto i=>obtain ⟨u,q1,q2⟩:=bind_some (show ((wj s1 outs (.goto i) s2).bind fun o=>some (.inr o))=some r from hK); exact out q1 (aaN q2).symm
  |panic i=>obtain ⟨u,q1,q2⟩:=bind_some (show ((wj s1 outs (.panic i) s2).bind fun o=>some (.inr o))=some r from hK); exact out q1 (aaN q2).symm
  |outgrown=>obtain ⟨u,q1,q2⟩:=bind_some (show ((wj s1 outs .outgrown s2).bind fun o=>some (.inr o))=some r from hK); exact out q1 (aaN q2).symm
theorem jv.aaQ {E:Env} {c:Code} {s s1:St} {gh:List (Loc × Nat × TypeId)} {head:dC} {outs:List (XK × dC)} {rd:(head.ps.T→Option (JT outs))→head.ps.T→Option (JT outs)} {N:Nat} {v0:head.ps.T} {o:JT outs} {Q:Exit→St→Prop}
  (hg:Am.kl gh s=some s1) (h0:head.dec s1 s1=some v0) (hr:∀ k v u,rd k v=some u→BT E c (fun e s'=>SC s1 head outs k e s'=some u) (head.st s1 v))
  (hl:gK rd N v0=some o) (hQ:∀ (t:dC) (v:t.ps.T) (e:Exit),(∀ (α:Type) (K:Exit→St→α),YN s1 outs o K=K e (t.st s1 v))→Q e (t.st s1 v)∧aU s (t.st s1 v)) :
  BT E (.loop c) Q s:=fun R0 w β a F hr0 B6=>by
 obtain ⟨R,k1,k2,k3,_⟩:=pf hr0 hg;have hf:cT R s1.ro F:=by rw [k3]; exact B6.mono k2.ext
 obtain ⟨i1,i2⟩:=dC.KW (aU.refl s1) k1 k1 (Step.refl R w β s1.boxes) h0;refine s5 (fun m a' w'=>∃ v R' β',gK rd m v=some o∧bi E R' w' β' (head.st s1 v) a'∧Step R w β s1.boxes R' w' β' (head.st s1 v).boxes) ?_ ⟨v0,_,β,hl,i1,i2⟩;rintro m a' w' ⟨v,R',β',hm,mW,lI⟩;cases m with
 |zero=>cases hm
 |succ m=>
  refine wpIn_mono (hr (gK rd m) v o hm R' w' β' a' F mW (hf.mono lI.ext)) ?_;rintro e a2 w2 ⟨s2,R2,β2,⟨hK,hx⟩,I6,MK,JB⟩;have ML:aU s1 s2:=(head.Ay s1 v).trans hx;have QY:=lI.trans MK;have out:wj s1 outs e s2=some o→Res E R0 w β s (fun e s'=>Q e s'∧aU s s') e a2 w2:=fun hu=>by
   obtain ⟨t,v',q1,q2⟩:=Ch hu;obtain ⟨j1,j2⟩:=dC.KW ML k1 I6 QY q1;exact ⟨t.st s1 v',_,β2,hQ t v' e q2,j1,k2.trans j2,k3⟩
  cases e with
  |normal=>
   obtain ⟨v',q1,q2⟩:=bind_some (show (head.dec s1 s2).bind (gK rd m)=some o from hK);obtain ⟨j1,j2⟩:=dC.KW ML k1 I6 QY q1;exact ⟨m,aaG m,v',_,β2,q2,j1,j2⟩
  |exit i=>exact out hK
  |ret=>exact out hK
  |goto i=>exact out hK
  |panic i=>exact out hK
  |outgrown=>exact out hK
theorem jv.aaR {E:Env} {X:Type} {c:Code} {s s1:St} {gh:List (Loc × Nat × TypeId)} {head:dC} {K:Exit→St→Option X} {rd:(head.ps.T→Option X)→head.ps.T→Option X} {N:Nat} {v0:head.ps.T} {o:X}
  (hg:Am.kl gh s=some s1) (h0:head.dec s1 s1=some v0) (hr:∀ k v u,rd k v=some u→BT E c (fun e s'=>SE s1 head K k e s'=some u) (head.st s1 v))
  (hl:gK rd N v0=some o) :
  BT E (.loop c) (fun e s'=>K e s'=some o) s:=fun R0 w β a F hr0 B6=>by
 obtain ⟨R,k1,k2,k3,_⟩:=pf hr0 hg;have hf:cT R s1.ro F:=by rw [k3]; exact B6.mono k2.ext
 obtain ⟨i1,i2⟩:=dC.KW (aU.refl s1) k1 k1 (Step.refl R w β s1.boxes) h0;refine s5 (fun m a' w'=>∃ v R' β',gK rd m v=some o∧bi E R' w' β' (head.st s1 v) a'∧Step R w β s1.boxes R' w' β' (head.st s1 v).boxes) ?_ ⟨v0,_,β,hl,i1,i2⟩;rintro m a' w' ⟨v,R',β',hm,mW,lI⟩;cases m with
 |zero=>cases hm
 |succ m=>
  refine wpIn_mono (hr (gK rd m) v o hm R' w' β' a' F mW (hf.mono lI.ext)) ?_;rintro e a2 w2 ⟨s2,R2,β2,⟨hK,hx⟩,I6,MK,JB⟩;have ML:aU s1 s2:=(head.Ay s1 v).trans hx;have QY:=lI.trans MK;have out:K e s2=some o→Res E R0 w β s (fun e s'=>K e s'=some o∧aU s s') e a2 w2:=fun hu=>
   ⟨s2,R2,β2,⟨hu,(th hg).trans ML⟩,I6,k2.trans QY,JB.trans k3⟩
  cases e with
  |normal=>
   obtain ⟨v',q1,q2⟩:=bind_some (show (head.dec s1 s2).bind (gK rd m)=some o from hK);obtain ⟨j1,j2⟩:=dC.KW ML k1 I6 QY q1;exact ⟨m,aaG m,v',_,β2,q2,j1,j2⟩
  |exit i=>exact out hK
  |ret=>exact out hK
  |goto i=>exact out hK
  |panic i=>exact out hK
  |outgrown=>exact out hK
end
section rot
variable {E:Env} {s1:St} {R:aj} {w:World} {β:Nat→Nat} {F:Fence}
def At (E:Env) (s1:St) (R:aj) (w:World) (β:Nat→Nat) (s:St) (a:Act) (w':World):Prop:=
 ∃ R' β',aU s1 s∧bi E R' w' β' s a∧Step R w β s1.boxes R' w' β' s.boxes∧s.ro=s1.ro
theorem BT.at {c:Code} {Q:Exit→St→Prop} {s:St} {a:Act} {w':World} {Φ:Exit→Act→World→Prop} (hf:cT R s1.ro F) (h:BT E c Q s) (FN:At E s1 R w β s a w') (hQ:∀ e s' a' w',Q e s'→At E s1 R w β s' a' w'→Φ e a' w'):c.wpIn F 0 E.P Φ a w':=by
 obtain ⟨R',β',hx,hr,lI,bu⟩:=FN;refine wpIn_mono (h R' w' β' a F hr (by rw [bu]; exact hf.mono lI.ext)) ?_;rintro e a2 w2 ⟨s2,R2,β2,⟨hq,ML⟩,I6,MK,JB⟩;exact hQ e s2 a2 w2 hq ⟨R2,β2,hx.trans ML,I6,lI.trans MK,JB.trans bu⟩
end rot
theorem D1 {C:km} (HN:∀ g e,C.PX g=some e→aJ C.D.toEnv g e) (n:Nat):HM C (ev C n):=by
 induction n using Nat.strongRecOn with
 |_ n ihn=>
 cases n with
 |zero=>intro f p c X jN _ K s x _ h; cases h
 |succ n=>
  have hs:=ihn n (aaG n);have plain:∀ (f:FuncId) (p:Nat) (c:Code) (X:Type) (jN:Option X→Option X→Option X),Bo jN→∀ (K:Exit→St→Option X) (s:St) (x:X),((∃ b,c=.loop b)→C.HG f p=none) →
    dL (C.D.dt f) c=true→DU C (ev C n) f p c X jN K s=some x→BT C.D.toEnv c (fun e s'=>K e s'=some x) s:=by
   intro f p c X jN hm K s x lE hd h;have F8:=JG HN hs hm;have afj:=MJ hs hm;unfold DU at h;cases c with
   |skip=>exact jv.skip ⟨h,aU.refl s⟩
   |label l=>exact jv.label ⟨h,aU.refl s⟩
   |exit id=>exact jv.exit ⟨h,aU.refl s⟩
   |ret=>exact jv.ret ⟨h,aU.refl s⟩
   |seq a b=>
    rw [dL,aaa] at hd;refine jv.seq ((hs f _ a X jN hm _ s x hd.1 h).of fun e s' hq hx=>?_);cases e with
    |normal=>exact (hs f _ b X jN hm _ s' x hd.2 hq).of fun e s2 sT ML=>⟨sT,hx.trans ML⟩
    |_=>exact ⟨hq,hx⟩
   |cond co a b=>
    rw [dL,aaa] at hd;simp only at h;split at h
    ·rename_i t hb;refine jv.cond hb (fun e=>?_) (fun e=>?_)
     ·subst e; exact hs f _ a X jN hm _ s x hd.1 h
     ·subst e; exact hs f _ b X jN hm _ s x hd.2 h
    ·cases h
   |block id c=>
    refine jv.block ((hs f _ c X jN hm _ s x hd h).of fun e s' hq hx=>?_);cases e with
    |exit mc=>
     simp only [Sz] at hq;refine ⟨fun e=>?_,fun e=>?_⟩
     ·subst e; rw [xT] at hq; exact ⟨hq,hx⟩
     ·rw [sO e] at hq; exact ⟨hq,hx⟩
    |_=>exact ⟨hq,hx⟩
   |scope c=>
    refine jv.scope ((hs f _ c X jN hm _ s x hd h).of fun e s' hq hx=>?_);cases e with
    |goto l=>cases hq
    |_=>exact ⟨hq,hx⟩
   |region id ops dr=>
    cases dr with
    |false=>exact jv.region (f:=f) (Ge (D0 F8 afj h))
    |true=>
     simp only at h;rw [dL] at hd;split at h
     ·rename_i pl hT;rw [hT] at hd;exact jv.draw (f:=f) hd (yM (np F8 afj hm h))
     ·cases h
   |loop b=>
    have YT:=lE ⟨b,rfl⟩;refine jv.loop (fun m s'=>m≤n+1∧ev C m f p (.loop b) X jN K s'=some x∧aU s s') ?_ (m:=n+1) ⟨Nat.le_refl _,?_,aU.refl s⟩
    ·rintro m s' ⟨U9,hr,hx⟩;cases m with
     |zero=>cases hr
     |succ m=>
      have mW:DV C (ev C m) f p (.loop b) X jN K s'=some x:=hr;unfold DV at mW;rw [YT] at mW;refine (ihn m (by omega) f _ b X jN hm _ s' x hd mW).of fun e s2 hq ML=>?_
      cases e with
      |normal=>exact ⟨m,aaG m,by omega,hq,hx.trans ML⟩
      |_=>exact ⟨hq,hx.trans ML⟩
    ·show DV C (ev C n) f p (.loop b) X jN K s=some x;unfold DV;rw [YT];exact h
   |rangeFunc g ps xm bd=>
    simp only at h;split at h
    ·rename_i bu;split at h
     ·rename_i hf first cap hg
      refine jv.rangeFunc (4096 * p+f) bu hg ((F8 _ _ _ _ _ h).mono fun r G' hq=>?_);unfold rfQ;split at hq
      ·rename_i busy pending fn sl nn pp aa bb dd done Hy;rw [Hy];simp only;obtain ⟨h1,h2⟩:=bo hq;refine ⟨by cases busy <;> cases done <;> simp_all,?_⟩;have VB:∀ (G:List GO) (m:List Nat),aU s ⟨s.ab,s.boxes,G,m,s.ro,s.n⟩:=fun _ _=>⟨⟨[],rfl⟩,⟨[],rfl⟩,rfl⟩
       split at h2
       ·rw [eD] at h2; exact ⟨h2,VB _ _⟩
       ·rw [eD] at h2; exact jv.ret ⟨h2,VB _ _⟩
       ·rw [eD] at h2; exact jv.exit ⟨h2,VB _ _⟩
       ·cases h2
      ·cases hq
     ·cases h
    ·rename_i id bu;split at h
     ·rename_i bu0 p0 fn0 sl0 n0 ps0 as0 bd0 d0 dn0 ajh;split at h
      ·rename_i hf first cap hg
       refine jv.Ms (4096 * p+f) bu ajh hg ((F8 _ _ _ _ _ h).mono fun r G' hq=>?_);unfold aaH;split at hq
       ·rename_i busy pending fn sl nn pp aa bb dd done Hy;rw [Hy];simp only;obtain ⟨h1,h2⟩:=bo hq;refine ⟨by cases busy <;> cases done <;> simp_all,?_⟩;have VB:∀ (G:List GO) (m:List Nat),aU s ⟨s.ab,s.boxes,G,m,s.ro,s.n⟩:=fun _ _=>⟨⟨[],rfl⟩,⟨[],rfl⟩,rfl⟩
        split at h2
        ·rw [eD] at h2; exact ⟨h2,VB _ _⟩
        ·rw [eD] at h2; exact jv.ret ⟨h2,VB _ _⟩
        ·rw [eD] at h2; exact jv.exit ⟨h2,VB _ _⟩
        ·cases h2
       ·cases hq
      ·cases h
     ·cases h
   |_=>cases h
  intro f p c X jN hm K s x hd h;change DV C (ev C n) f p c X jN K s=some x at h;unfold DV at h;split at h
  ·rename_i hc;exact plain f p c X jN hm K s x (fun _=>hc) hd h
  ·rename_i ct hct;split at h
   ·rename_i yN hc;generalize uU (lM c []) yN=outs at h;cases RS:SB c with
    |true=>rw [RS] at h; cases h
    |false=>
    rw [RS] at h;obtain ⟨o,h1,h2⟩:=bind_some (show (DU C (ev C n) f p c (JT outs) PZ (wj s outs) s).bind (fun o=>YN s outs o K)=some x from h);have hp:=plain f p c (JT outs) PZ Ax (wj s outs) s o (fun ⟨b,hb⟩=>by subst hb; cases RS) hd h1;refine jv.aja (s:=s) (Q':=fun e s'=>wj s outs e s'=some o) (jv.mono hp fun e s' hh=>⟨hh.2,hh.1⟩) fun e s' hq=>?_
    obtain ⟨t,v,q1,q2⟩:=Ch hq;exact ⟨t,v,q1,(q2 _ K).symm.trans h2,t.Ay s v⟩
   ·rename_i gh yO yN hc;split at h
    ·rename_i b;split at h
     ·rename_i s1 hg;generalize uU (lM b []) yN=outs at h;generalize uT (lM b []) yO=head at h;unfold YR at h;obtain ⟨v0,h0,h⟩:=bind_some h;obtain ⟨o,hl,h⟩:=bind_some h;refine jv.afh hg h0 (fun v r hr=>hs f _ b _ PZ Ax _ _ r hd hr) hl fun t v e kp=>?_
      exact ⟨(kp _ K).symm.trans h,(th hg).trans (t.Ay s1 v)⟩
     ·cases h
    ·cases h
   ·rename_i k gh yO yN hc;split at h
    ·rename_i b;split at h
     ·rename_i s1 hg;generalize uU (lM b []) yN=outs at h;generalize uT (lM b []) yO=head at h;unfold afg at h;cases (show none=some _ from h)
     ·cases h
    ·cases h
   ·rename_i gh yO yN hc;split at h
    ·rename_i b;split at h
     ·rename_i s1 hg;generalize uU (lM b []) yN=outs at h;generalize uT (lM b []) yO=head at h;unfold SD at h;obtain ⟨v0,h0,h⟩:=bind_some h;obtain ⟨o,hl,h⟩:=bind_some h;refine jv.aaQ hg h0 (fun k v u hu=>hs f _ b _ PZ Ax _ _ u hd hu) hl fun t v e kp=>?_
      exact ⟨(kp _ K).symm.trans h,(th hg).trans (t.Ay s1 v)⟩
     ·cases h
    ·cases h
   ·rename_i gh yO hc;split at h
    ·rename_i b;split at h
     ·rename_i s1 hg;generalize uT (lM b []) yO=head at h;unfold SF at h;obtain ⟨v0,h0,hl⟩:=bind_some h;exact jv.aaR hg h0 (fun k v u hu=>hs f _ b _ PZ Ax _ _ u hd hu) hl
     ·cases h
    ·cases h
   ·rename_i tq sz ty yO yN hc;split at h
    ·rename_i b;split at h
     ·rename_i cc s1 hg;cases cc with
      |false=>cases h
      |true=>
      generalize uU (lM b []) yN=outs at h;generalize uT (lM b []) yO=head at h;have h:MD C (ev C n) f p b s1 head outs tq sz ty K=some x:=h;unfold MD at h;cases (show none=some _ from h)
     ·cases h
    ·cases h
   ·cases h
end Go.Am
namespace Go.Am
open Go
noncomputable def km.fn (C:km) (n:Nat) (g:FuncId) (ps:aR) (p:aM) (x:ps.T):Option p.T:=
 Gb C (ev C n) PZ g (ps.enc x) [] (fun r _=>p.dec r)
theorem km.dP {C:km} (HN:∀ g e,C.PX g=some e→aJ C.D.toEnv g e) {n:Nat} {g:FuncId} {ps:aR} {p:aM} (h1:ps.under 0=true) (h2:p.under 0=true) :
  aJ C.D.toEnv g ⟨ps,p,C.fn n g ps p⟩:=fun x y h=>by
 refine bY.mono (bY.of (p:=p) (Q:=fun z=>z=y) (ps.fw x h1) h2 ((qt (D1 HN n) Ax g _ [] _ y h).mono fun r _ hr=>⟨y,hr,rfl⟩)) ?_;rintro r ⟨z,rfl,rfl⟩;rfl
noncomputable def km.fnX (C:km) (n:Nat) (g:FuncId) (ps:aR) (outs:List RF) (x:ps.T):Option (XT outs):=
 Gb C (ev C n) PZ g (ps.enc x) [] (fun r G=>PU G r outs)
theorem km.aaS {C:km} (HN:∀ g e,C.PX g=some e→aJ C.D.toEnv g e) {n:Nat} {g:FuncId} {ps:aR} {outs:List RF} (h1:ps.under 0=true) (h2:outs.all RF.under=true) :
  ∀ x y,C.fnX n g ps outs x=some y→uQ C.D.toEnv g (ps.enc x) outs (fun z=>z=y):=fun x y h=>
 uQ.of (ps.fw x h1) (List.all_eq_true.1 h2) ((qt (D1 HN n) Ax g _ [] _ y h).mono fun r G' hr=>⟨y,hr,rfl⟩)
theorem bY.env {E E':Env} {g:FuncId} {args:List AV} {Q:AV→Prop} (hP:E.P=E'.P) (hg:E.ft=E'.ft) (h:bY E g args Q) (BK:E.lo=E'.lo:=by rfl) (hgx:E.gx=E'.gx:=by rfl):bY E' g args Q:=by
 have go:∀ {R:aj} {w:World} {x:Nat} {cs:List AV},qK E R w x cs↔qK E' R w x cs:=fun {R w x cs}=>by unfold qK; rw [hgx]
 have KW:∀ {R:aj} {w:World} {G:List GO},il E R w G↔il E' R w G:=fun {R w G}=>
  ⟨fun h=>⟨h.len,h.obj,h.inj,h.wf,fun g cs hh=>go.1 (h.ft g cs (by rw [hg]; exact hh)),by rw [← BK]; exact h.lo⟩,fun h=>⟨h.len,h.obj,h.inj,h.wf,fun g cs hh=>go.2 (h.ft g cs (by rw [← hg]; exact hh)),by rw [BK]; exact h.lo⟩⟩
 intro G;obtain ⟨h1,h2⟩:=h G;rw [hP] at h1 h2;refine ⟨h1,fun R w cs hr hl=>(h2 R w cs (KW.2 hr) hl).mono fun e w' he=>?_⟩;cases e with
 |returned c=>obtain ⟨r,G',R',k1,k2,k3,k4⟩:=he; exact ⟨r,G',R',k1,k2,KW.1 k3,k4⟩
 |panicked c=>exact he
 |outgrown=>exact he
theorem bY.more {E E':Env} {g:FuncId} {args:List AV} {Q:AV→Prop} (hP:E.P=E'.P) (hg:∀ g cs,E.ft g=some cs→E'.ft g=some cs) (h:bY E g args Q) (BK:E.lo=E'.lo:=by rfl) (hgx:E.gx=fun _=>false:=by rfl):bY E' g args Q:=by
 intro G;obtain ⟨h1,h2⟩:=h G;rw [hP] at h1 h2;refine ⟨h1,fun R w cs hr hl=>(h2 R w cs ⟨hr.len,hr.obj,hr.inj,hr.wf,fun g cs hh=>⟨(hr.ft g cs (hg g cs hh)).1,fun hx=>by rw [hgx] at hx; cases hx⟩,by rw [BK]; exact hr.lo⟩ hl).mono fun e w' he=>?_⟩;cases e with
 |returned c=>
  obtain ⟨r,G',R',k1,k2,k3,k4⟩:=he;exact ⟨r,G',R',k1,k2,⟨k3.len,k3.obj,k3.inj,k3.wf,fun g cs hh=>(hr.ft g cs hh).mono k4.ext,by rw [← BK]; exact k3.lo⟩,k4⟩
 |panicked c=>exact he
 |outgrown=>exact he
def Fu:List (Nat × bH)→FuncId→Option bH
 |[],_=>none
 |(a,e) :: l,g=>bif aak a g then some e else Fu l g
theorem iY {E:Env}:∀ {l:List (Nat × bH)},(∀ a e,(a,e)∈l→aJ E a e)→∀ g e,Fu l g=some e→aJ E g e
 |[],_,g,e,h=>by cases h
 |(a,x) :: l,hl,g,e,h=>by
  unfold Fu at h;cases hb:aak a g with
  |true=>
   rw [hb] at h;cases h;rw [← aag hb];exact hl a _ (by simp)
  |false=>
   rw [hb] at h;exact iY (fun a e hm=>hl a e (by simp [hm])) g e h
theorem D2 {E:Env}:∀ g e,Fu [] g=some e→aJ E g e:=fun _ _ h=>by cases h
theorem ld {E:Env} {a:Nat} {x:bH} {l:List (Nat × bH)} (hx:aJ E a x) (hl:∀ g e,Fu l g=some e→aJ E g e):∀ g e,Fu ((a,x) :: l) g=some e→aJ E g e:=fun g e h=>by
 unfold Fu at h;cases hb:aak a g with
 |true=>
  rw [hb] at h;cases h;rw [← aag hb];exact hx
 |false=>
  rw [hb] at h;exact hl g e h
def YU:List (Nat × eZ)→Nat→Option eZ
 |[],_=>none
 |(a,c) :: l,p=>bif aak a p then some c else YU l p
def YV:List (Nat × List (Nat × eZ))→FuncId→Nat→Option eZ
 |[],_,_=>none
 |(a,c) :: l,g,p=>bif aak a g then YU c p else YV l g p
def Ob:Option Unit→Option Unit→Option Unit
 |some _,some _=>some ()
 |_,_=>none
theorem MM:Bo Ob:=fun a b x h=>by
 cases a <;> cases b <;> first | (cases h; done) | exact ⟨rfl,rfl⟩
theorem dS {C:km} (HN:∀ g e,C.PX g=some e→aJ C.D.toEnv g e) {n:Nat} {g:FuncId} {args:List AV} {p:aM} {ok:p.T→Bool} (h1:aP 0 args=true) (h2:p.under 0=true)
  (h:Gb C (ev C n) Ob g args [] (fun r _=>bif p.fits r&&ok (p.bC r) then some () else none)=some ()):bY C.D.toEnv g args (fun r=>∃ y,r=p.enc y∧ok y=true):=
 bY.of (p:=p) (Q:=fun y=>ok y=true) h1 h2 ((qt (D1 HN n) MM g args [] _ () h).mono fun r _ hr=>by
  obtain ⟨k,_⟩:=bo hr;rw [aaa] at k;exact ⟨p.bC r,by simp [aM.dec,k.1],k.2⟩)
end Go.Am
namespace Go.Am
open Go
def xq (w:World):aj:=⟨fun b _=>b < w.heap.size,[]⟩
mutual
def aM.wf:(p:aM)→p.T→Prop
 |.int k,(n:Int)=>k.min≤n∧n≤k.max
 |.bool,_=>True
 |.str,(s:List UInt8)=>s.length≤maxLen
 |.agg ps,x=>ps.wf x
 |.bW ps,x=>ps.wf x
 |.list _ p,(xs:List p.T)=>xs.length≤maxLen∧∀ x∈xs,p.wf x
 |.own _ _ p,(xs:List p.T)=>xs.length≤maxLen∧∀ x∈xs,p.wf x
 |.aY _ _ p,(x:Nat × List p.T)=>x.2.length≤maxLen∧∀ y∈x.2,p.wf y
 |.gH _ _,_=>True
 |.kQ _,_=>True
 |.two _ _,_=>True
def aR.wf:(ps:aR)→ps.T→Prop
 |.nil,_=>True
 |.cons p .nil,x=>p.wf x
 |.cons p (.cons q ps),x=>p.wf x.1∧(aR.cons q ps).wf x.2
end
def pw:List aM→aR
 |[]=>.nil
 |p :: l=>.cons p (pw l)
def P4 {β:Type} (g:β→Option (List aM)):List β→Option (List aM)
 |[]=>some []
 |x :: l=>match g x,P4 g l with
  |some a,some b=>some (a++b)
  |_,_=>none
def yP {β:Type} (off len:β→Nat):Nat→List β→Option Nat
 |o,[]=>some o
 |o,x :: l=>bif aak (off x) o then yP off len (o+len x) l else none
def isSome (n:Nat):Option Nat→Bool
 |some m=>aak m n
 |none=>false
def yQ (ag:Bool) (ps:List aM):Option aM:=match ag,ps with
 |true,ps=>some (.agg (pw ps))
 |false,[p]=>some p
 |_,_=>none
def P5 (P:Program):Nat→TypeId→Option (List aM)
 |0,_=>none
 |n+1,t=>match P.underlying t with
  |some .bool=>some [.bool]
  |some (.int k)=>some [.int k]
  |some .string=>some [.str]
  |some (.slice e)=>match P5 P n e,P.underlying e with
   |some ps,some u=>match yQ (Go.Am.nR u) ps with
    |some pe=>bif Nat.blt 0 (P.cellsOf e) then some [.list (P.cellsOf e) pe] else none
    |none=>none
   |_,_=>none
  |some (.struct fs)=>bif isSome (P.cellsOf t) (yP abu (fun f=>P.cellsOf f.type) 0 fs.toList) then P4 (fun f=>P5 P n f.type) fs.toList else none
  |some (.array m e)=>bif isSome (P.cellsOf t) (yP (fun i=>i * P.cellsOf e) (fun _=>P.cellsOf e) 0 (aas m)) then P4 (fun _=>P5 P n e) (aas m) else none
  |_=>none
def aji (a:AV):Prop:=a.ba=true∧a.cells=[a]∧a.closed=true
def xr:List aM→List AV→Prop
 |[],[]=>True
 |p :: ps,a :: qu=>p.fits a=true∧(p.wf (p.bC a)∧aji a)∧xr ps qu
 |_,_=>False
theorem xr.append:∀ {ps qs:List aM} {qu bs:List AV},xr ps qu→xr qs bs→xr (ps++qs) (qu++bs)
 |[],_,[],_,_,h=>h
 |_ :: _,_,_ :: _,_,k,h=>⟨k.1,k.2.1,xr.append k.2.2 h⟩
 |[],_,_ :: _,_,h,_=>h.elim
 |_ :: _,_,[],_,h,_=>h.elim
theorem xr.mk:∀ {ps:List aM} {qu:List AV},xr ps qu→(pw ps).fits qu=true∧(pw ps).wf ((pw ps).bC qu)
 |[],[],_=>⟨rfl,trivial⟩
 |[p],[a],h=>⟨by
   change (p.fits a&&(List.isEmpty ([]:List AV)))=true;rw [h.1];rfl,h.2.1.1⟩
 |p :: q :: ps,a :: qu,h=>by
  obtain ⟨h1,h2⟩:=xr.mk (ps:=q :: ps) h.2.2;refine ⟨?_,h.2.1.1,h2⟩;change (p.fits a&&(pw (q :: ps)).fits qu)=true;rw [h.1,h1];rfl
 |[],_ :: _,h=>h.elim
 |_ :: _,[],h=>h.elim
 |[_],_ :: _ :: _,h=>h.2.2.elim
theorem JI {ag:Bool} {ps:List aM} {pe:aM} (h:yQ ag ps=some pe) {qu:List AV} (hf:xr ps qu) :
  ∃ e,(if ag then e=.agg qu else qu=[e])∧pe.fits e=true∧pe.wf (pe.bC e):=by
 unfold yQ at h;split at h
 ·cases h;obtain ⟨h1,h2⟩:=hf.mk;exact ⟨.agg qu,rfl,h1,h2⟩
 ·rename_i p;cases h
  match qu,hf with
  |[a],hf=>exact ⟨a,rfl,hf.1,hf.2.1.1⟩
  |[],hf=>exact hf.elim
  |_ :: _ :: _,hf=>exact hf.2.2.elim
 ·cases h
theorem Oc:∀ {ps:List aM} {qu:List AV},xr ps qu→∀ a∈qu,a.ba=true∧a.cells=[a]∧a.closed=true
 |[],[],_,a,ha=>by simp at ha
 |_ :: _,b :: qu,hf,a,ha=>by
  rcases abp.1 ha with rfl|ha
  ·exact hf.2.1.2
  ·exact Oc hf.2.2 a ha
 |[],_ :: _,h,_,_=>h.elim
 |_ :: _,[],h,_,_=>h.elim
theorem Od {pe:aM}:∀ {es:List AV},(∀ x∈es,pe.fits x=true∧pe.wf (pe.bC x))→allFit pe.fits es=true∧∀ x∈es.map pe.bC,pe.wf x
 |[],_=>⟨rfl,by simp⟩
 |a :: es,h=>by
  obtain ⟨h1,h2⟩:=Od (es:=es) fun x hx=>h x (by simp [hx])
  refine ⟨by simp only [allFit,aaa]; exact ⟨(h a (by simp)).1,h1⟩,fun x hx=>?_⟩;rcases abp.1 hx with rfl|hx
  ·exact (h a (by simp)).2
  ·exact h2 x hx
section read
variable {H:Type} {enc:TypeId × Value→H} {P:Program} {w:World} {R:aj} {base:Nat} {spare:Nat→Bool} {held:Bool}
theorem px {α β:Type} {f:α→Option β} {x:α} {l:List α} {r:List β} (h:(x :: l).mapM f=some r):∃ y ys,f x=some y∧l.mapM f=some ys∧r=y :: ys:=by
 rw [List.mapM_cons] at h;cases hx:f x with
 |none=>rw [hx] at h; cases h
 |some y=>
  rw [hx] at h;cases hl:l.mapM f with
  |none=>rw [hl] at h; cases h
  |some ys=>rw [hl] at h; cases h; exact ⟨y,ys,rfl,rfl,rfl⟩
theorem D3 {β:Type} {off len:β→Nat} {g:β→Option (List aM)} {cs:List Value} {f:β→Option (DataW H × List MemPlace)}
  (hf:∀ x ps y,g x=some ps→f x=some y→∃ qu,aQ R w qu ((cs.drop (off x)).take (len x))∧xr ps qu∧∀ v∈(cs.drop (off x)).take (len x),v.oneCell'=true) :
  ∀ {L:List β} {o m:Nat} {ps:List aM} {ys:List (DataW H × List MemPlace)},yP off len o L=some m→P4 g L=some ps→L.mapM f=some ys →
   o≤m∧∃ qu,aQ R w qu ((cs.drop o).take (m - o))∧xr ps qu∧∀ v∈(cs.drop o).take (m - o),v.oneCell'=true
 |[],o,m,ps,ys,ht,hp,_=>by
  simp only [yP] at ht;simp only [P4] at hp;cases ht; cases hp;exact ⟨Nat.le_refl _,[],by simpa using aQ.nil,trivial,by simp⟩
 |x :: L,o,m,ps,ys,ht,hp,hm=>by
  unfold yP at ht;cases hb:aak (off x) o with
  |false=>rw [hb] at ht; cases ht
  |true=>
   rw [hb] at ht;have hb:=aag hb;unfold P4 at hp;split at hp
   ·rename_i pa pb h1 h2;cases hp;obtain ⟨y,ys',k1,k2,rfl⟩:=px hm;obtain ⟨qu,q1,q2,q3⟩:=hf x pa y h1 k1;obtain ⟨hle,bs,r1,r2,r3⟩:=D3 hf (show yP off len (o+len x) L=some m from ht) h2 k2;have e:(cs.drop o).take (m - o)=(cs.drop (off x)).take (len x)++(cs.drop (o+len x)).take (m - (o+len x)):=by
     rw [hb,show m - o=len x+(m - (o+len x)) by omega,List.take_add,List.drop_drop]
    rw [e];refine ⟨by omega,qu++bs,q1.append r1,q2.append r2,fun v hv=>?_⟩;rcases List.mem_append.1 hv with hv|hv
    ·exact q3 v hv
    ·exact r3 v hv
   ·cases hp
theorem rT {α β:Type} {f:α→Option β}:∀ {l:List α} {r:List β},l.mapM f=some r→∀ (i:Nat) (x:α),l[i]?=some x→∃ y,r[i]?=some y∧f x=some y
 |[],r,_,i,x,hx=>by simp at hx
 |a :: l,r,h,i,x,hx=>by
  obtain ⟨y,ys,h1,h2,rfl⟩:=px h;cases i with
  |zero=>simp at hx; subst hx; exact ⟨y,by simp,h1⟩
  |succ i=>obtain ⟨z,h3,h4⟩:=rT h2 i x (by simpa using hx); exact ⟨z,by simpa using h3,h4⟩
theorem mapM_length {α β:Type} {f:α→Option β}:∀ {l:List α} {r:List β},l.mapM f=some r→r.length=l.length
 |[],r,h=>by simp at h; subst h; rfl
 |a :: l,r,h=>by
  obtain ⟨y,ys,h1,h2,rfl⟩:=px h;simp [mapM_length h2]
theorem VL {a:Addr} {v:Value} (h:w.cell? a=some v):a.block < w.heap.size:=by
 unfold World.cell? at h;split at h
 ·rename_i hb; exact bK hb
 ·cases h
theorem Gf {e:TypeId} {ps:List aM} {pe:aM} {ag:Bool} {yR:Nat} (hp:∀ (cs:List Value) (y:DataW H × List MemPlace),aah enc P w base spare held yR e cs=some y→∃ qu,aQ (xq w) w qu cs∧xr ps qu∧∀ v∈cs,v.oneCell'=true) (he:yQ ag ps=some pe) {b off len:Nat} {r:List (DataW H × List MemPlace)}
  (h:(aas len).mapM (fun i=>(w.cells? base ((⟨b,off,none⟩:Addr).add (i * P.cellsOf e)) (P.cellsOf e)).bind (aah enc P w base spare held yR e))=some r) :
  ∀ (m i:Nat),i+m=len→∃ es,kn (xq w) w b (off+i * P.cellsOf e) (P.cellsOf e) es∧es.length=m∧∀ x∈es,pe.fits x=true∧pe.wf (pe.bC x)
 |0,i,_=>⟨[],.nil,rfl,by simp⟩
 |m+1,i,hi=>by
  obtain ⟨es,h1,h2,h3⟩:=Gf hp he h m (i+1) (by omega);obtain ⟨y,_,hy⟩:=rT h i i (by rw [aaq (by omega)]);obtain ⟨cs,hc,hy⟩:=bind_some hy;obtain ⟨qu,q1,q2,q3⟩:=hp _ _ hy;obtain ⟨x,hx,f1,f2⟩:=JI he q2;have qL:w.cells? base ((⟨b,off,none⟩:Addr).add (i * P.cellsOf e)) (P.cellsOf e)=some cs:=hc;unfold World.cells? at qL;split at qL
  ·have hlen:=mapM_length qL;rw [List.length_range] at hlen;have lE:x.cells=qu∧x.ba=true∧x.closed=true:=by
    have yC:=Oc q2;cases ag with
    |true=>
     simp only [if_true] at hx;subst hx;refine ⟨rfl,rfl,?_⟩;show aZ qu=true;clear h1 h2 h3 q1 q2 f1 f2
     induction qu with
     |nil=>rfl
     |cons a qu ih=>simp only [aZ,aaa]; exact ⟨(yC a (by simp)).2.2,ih (fun z hz=>yC z (by simp [hz]))⟩
    |false=>
     simp only [Bool.false_eq_true,if_false] at hx;subst hx;obtain ⟨k1,k2,k3⟩:=yC x (by simp);exact ⟨k2,k1,k3⟩
   have ol:∀ j v,cs[j]?=some v→w.cell? ⟨b,off+i * P.cellsOf e+j,none⟩=some v:=fun j v hv=>by
    have hj:j < P.cellsOf e:=by have:=(List.getElem?_eq_some_iff.1 hv).1; omega
    obtain ⟨v',k1,k2⟩:=rT qL j j (by rw [aaq hj]);rw [hv] at k1;cases k1;rw [de,de] at k2;exact k2
   refine ⟨x :: es,.cons ?_ lE.2.1 lE.2.2 ?_ ?_,by simp [h2],fun z hz=>?_⟩
   ·rw [lE.1,q1.length,hlen]
   ·rw [lE.1];refine ik.make q1 q3 ol (fun j hj=>?_);have KT:j < cs.length:=by rw [← q1.length]; exact hj
    exact VL (ol j cs[j] (List.getElem?_eq_getElem KT))
   ·rw [show off+i * P.cellsOf e+P.cellsOf e=off+(i+1) * P.cellsOf e by rw [Nat.add_mul]; omega];exact h1
   ·rcases abp.1 hz with rfl|hz
    ·exact ⟨f1,f2⟩
    ·exact h3 z hz
  ·cases qL
theorem yS (Fa:∀ b,spare b=true):∀ (n:Nat) {t:TypeId} {ps:List aM},P5 P n t=some ps→∀ {yR:Nat} {cs:List Value} {y:DataW H × List MemPlace},aah enc P w base spare held yR t cs=some y →
  ∃ qu,aQ (xq w) w qu cs∧xr ps qu∧∀ v∈cs,v.oneCell'=true
 |0,_,_,h,_,_,_,_=>by cases h
 |n+1,t,ps,h,0,_,_,hy=>by cases hy
 |n+1,t,ps,h,yR+1,cs,y,hy=>by
  unfold P5 at h;unfold aah at hy;split at h
  ·rename_i hu;cases h;rw [hu] at hy;cases cs with
   |nil=>cases hy
   |cons v l=>
    cases l with
    |cons v2 l=>(cases v <;> first | (cases hy; done) | (rename_i a; cases a <;> cases hy; done) | (rename_i a b; cases a <;> cases hy; done) | (rename_i a b c; cases a <;> first | (cases hy; done) | (cases b <;> first | (cases hy; done) | (cases c <;> cases hy))))
    |nil=>
     cases v with
     |bool b=>exact ⟨[.bool b],.one (.bool b),⟨rfl,⟨trivial,rfl,rfl,rfl⟩,trivial⟩,by simp [aaF]⟩
     |pointer a=>cases a <;> cases hy
     |slice a b c=>cases a <;> first | (cases hy; done) | (cases b <;> first | (cases hy; done) | (cases c <;> cases hy))
     |map a=>cases a <;> cases hy
     |chan a=>cases a <;> cases hy
     |_=>cases hy
  ·rename_i k hu;cases h;rw [hu] at hy;cases cs with
   |nil=>cases hy
   |cons v l=>
    cases l with
    |cons v2 l=>(cases v <;> first | (cases hy; done) | (rename_i a; cases a <;> cases hy; done) | (rename_i a b; cases a <;> cases hy; done) | (rename_i a b c; cases a <;> first | (cases hy; done) | (cases b <;> first | (cases hy; done) | (cases c <;> cases hy))))
    |nil=>
     cases v with
     |int k' i=>
      have hy:(if k'=k∧(Lit.int k i).wf=true then some (.lit (.int k i),[]) else none)=some y:=hy;split at hy
      ·rename_i hc;obtain ⟨rfl,hw⟩:=hc;exact ⟨[.int k' i],.one (.int k' i),⟨decide_eq_true rfl,⟨by have h:=hw; simp [Lit.wf] at h; exact h,rfl,rfl,rfl⟩,trivial⟩,by simp [aaF]⟩
      ·cases hy
     |pointer a=>cases a <;> cases hy
     |slice a b c=>cases a <;> first | (cases hy; done) | (cases b <;> first | (cases hy; done) | (cases c <;> cases hy))
     |map a=>cases a <;> cases hy
     |chan a=>cases a <;> cases hy
     |_=>cases hy
  ·rename_i hu;cases h;rw [hu] at hy;cases cs with
   |nil=>cases hy
   |cons v l=>
    cases l with
    |cons v2 l=>(cases v <;> first | (cases hy; done) | (rename_i a; cases a <;> cases hy; done) | (rename_i a b; cases a <;> cases hy; done) | (rename_i a b c; cases a <;> first | (cases hy; done) | (cases b <;> first | (cases hy; done) | (cases c <;> cases hy))))
    |nil=>
     cases v with
     |string s=>
      have hy:(if s.size≤maxLen then some (.lit (.string s.data.toList),[]) else none)=some y:=hy;split at hy
      ·rename_i hc;exact ⟨[.str s.data.toList],.one (.str s.data.toList),⟨rfl,⟨by simpa [aM.wf,aM.bC,AV.ZI] using hc,rfl,rfl,rfl⟩,trivial⟩,by simp [aaF]⟩
      ·cases hy
     |pointer a=>cases a <;> cases hy
     |slice a b c=>cases a <;> first | (cases hy; done) | (cases b <;> first | (cases hy; done) | (cases c <;> cases hy))
     |map a=>cases a <;> cases hy
     |chan a=>cases a <;> cases hy
     |_=>cases hy
  ·rename_i e hu;rw [hu] at hy;split at h
   ·rename_i ps' u h1 h2;split at h
    ·rename_i pe h3;obtain ⟨hz,h⟩:=bo h;cases h;have hz:=Nat.le_of_ble_eq_true hz;cases cs with
     |nil=>cases hy
     |cons v l=>
      cases l with
      |cons v2 l=>(cases v <;> first | (cases hy; done) | (rename_i a; cases a <;> cases hy; done) | (rename_i a b; cases a <;> cases hy; done) | (rename_i a b c; cases a <;> first | (cases hy; done) | (cases b <;> first | (cases hy; done) | (cases c <;> cases hy))))
      |nil=>
       cases v with
       |slice a len cap=>
        cases a with
        |none=>
         have hz:len=0∧cap=0:=by
          cases len with
          |zero=>cases cap with
           |zero=>exact ⟨rfl,rfl⟩
           |succ _=>cases hy
          |succ _=>cases hy
         obtain ⟨rfl,rfl⟩:=hz;exact ⟨[.list .iu (P.cellsOf e) []],.one .lZ,⟨by simp [aM.fits,allFit],⟨⟨Nat.zero_le _,fun x hx=>by change x∈([]:List pe.T) at hx; cases hx⟩,rfl,rfl,rfl⟩,trivial⟩,by simp [aaF]⟩
        |some a=>
         have hy:(if base≤a.block∧len≤cap∧cap≤maxLen then
          ((aas len).mapM (fun i=>(w.cells? base (a.add (i * P.cellsOf e)) (P.cellsOf e)).bind (aah enc P w base spare held yR e))).bind fun Oe=>
           (if spare a.block then (aas (cap - len)).mapM (fun j=>(w.cells? base (a.add ((len+j) * P.cellsOf e)) (P.cellsOf e)).bind (aah enc P w base spare held yR e)) else some []).map fun rest=>
            (DataW.slice (Oe.map (·.1)) (rest.map (·.1)),MemPlace.row a ((Oe.length+rest.length) * P.cellsOf e)++(Oe++rest).flatMap (·.2))
          else none)=some y:=hy
         split at hy
         ·rename_i hc;obtain ⟨Oe,k1,hy⟩:=bind_some hy;rw [if_pos (Fa _)] at hy;by_cases jZ:cap=0
          ·subst jZ;have Ac:len=0:=Nat.le_zero.1 hc.2.1;subst Ac;exact ⟨[.list .iu (P.cellsOf e) []],.one .rv,⟨by simp [aM.fits,allFit],⟨⟨Nat.zero_le _,fun x hx=>by change x∈([]:List pe.T) at hx; cases hx⟩,rfl,rfl,rfl⟩,trivial⟩,by simp [aaF]⟩
          ·have SI:a.spot=none:=by
            have aaC:∃ y,(w.cells? base (a.add (0 * P.cellsOf e)) (P.cellsOf e)).bind (aah enc P w base spare held yR e)=some y:=by
             by_cases Ac:len=0
             ·subst Ac;cases hr:(aas (cap - 0)).mapM (fun j=>(w.cells? base (a.add ((0+j) * P.cellsOf e)) (P.cellsOf e)).bind (aah enc P w base spare held yR e)) with
              |none=>rw [hr] at hy; cases hy
              |some r=>
               obtain ⟨z,_,hz⟩:=rT hr 0 0 (by rw [aaq (by omega)]);exact ⟨z,hz⟩
             ·obtain ⟨z,_,hz⟩:=rT k1 0 0 (by rw [aaq (by omega)]);exact ⟨z,hz⟩
            obtain ⟨z,hz'⟩:=aaC;obtain ⟨cs,wg,_⟩:=bind_some hz';unfold World.cells? at wg;split at wg
            ·obtain ⟨v,_,hv⟩:=rT wg 0 0 (by rw [aaq (by omega)]);rw [Nat.zero_mul] at hv;unfold World.cell? at hv;split at hv
             ·split at hv
              ·cases hv
              ·rename_i hs;simpa [Addr.add] using hs
             ·cases hv
            ·cases wg
           obtain ⟨b,off,spot⟩:=a;have SI:spot=none:=SI;subst SI;obtain ⟨es,q1,q2,q3⟩:=Gf (fun cs y hy=>yS Fa n h1 hy) h3 k1 len 0 (by omega);rw [Nat.zero_mul,Nat.add_zero] at q1;obtain ⟨f1,f2⟩:=Od q3;refine ⟨[.list .iu (P.cellsOf e) es],.one (.list q1 q2.symm hc.2.1 trivial),⟨?_,⟨⟨?_,f2⟩,rfl,rfl,rfl⟩,trivial⟩,by simp [aaF]⟩
           ·simp only [aM.fits,aaa,Bool.or_eq_true];exact ⟨.inl (Nat.beq_refl _),f1⟩
           ·have:es.length≤maxLen:=by rw [q2]; omega
            show (es.map pe.bC).length≤maxLen;rw [List.length_map];exact this
         ·cases hy
       |pointer a=>cases a <;> cases hy
       |map a=>cases a <;> cases hy
       |chan a=>cases a <;> cases hy
       |_=>cases hy
    ·cases h
   ·cases h
  ·rename_i fs hu;rw [hu] at hy;have hy:(if cs.length=P.cellsOf t then (fs.toList.mapM fun f=>aah enc P w base spare held yR f.type ((cs.drop f.offset).take (P.cellsOf f.type))).map fun xs=>(.agg (xs.map (·.1)),xs.flatMap (·.2)) else none)=some y:=hy;split at hy
   ·rename_i hl;obtain ⟨h1,h2⟩:=bo h;cases hm:fs.toList.mapM fun f=>aah enc P w base spare held yR f.type ((cs.drop f.offset).take (P.cellsOf f.type)) with
    |none=>rw [hm] at hy; cases hy
    |some ys=>
     cases ht:yP abu (fun f=>P.cellsOf f.type) 0 fs.toList with
     |none=>rw [ht] at h1; cases h1
     |some m=>
      rw [ht] at h1;have h1:=aag (show aak m (P.cellsOf t)=true from h1);obtain ⟨_,qu,q1,q2,q3⟩:=D3 (R:=xq w) (w:=w) (off:=abu) (len:=fun f=>P.cellsOf f.type) (cs:=cs) (fun x ps y hx hy'=>yS Fa n hx hy') ht h2 hm;rw [h1,← hl] at q1 q3;simp only [List.drop_zero,Nat.sub_zero,List.take_length] at q1 q3;exact ⟨qu,q1,q2,q3⟩
   ·cases hy
  ·rename_i m e hu;rw [hu] at hy;have hy:(if cs.length=P.cellsOf t then ((aas m).mapM fun i=>aah enc P w base spare held yR e ((cs.drop (i * P.cellsOf e)).take (P.cellsOf e))).map fun xs=>(.agg (xs.map (·.1)),xs.flatMap (·.2)) else none)=some y:=hy;split at hy
   ·rename_i hl;obtain ⟨h1,h2⟩:=bo h;cases hm:(aas m).mapM fun i=>aah enc P w base spare held yR e ((cs.drop (i * P.cellsOf e)).take (P.cellsOf e)) with
    |none=>rw [hm] at hy; cases hy
    |some ys=>
     cases ht:yP (fun i=>i * P.cellsOf e) (fun _=>P.cellsOf e) 0 (aas m) with
     |none=>rw [ht] at h1; cases h1
     |some k=>
      rw [ht] at h1;have h1:=aag (show aak k (P.cellsOf t)=true from h1);obtain ⟨_,qu,q1,q2,q3⟩:=D3 (R:=xq w) (w:=w) (off:=fun i=>i * P.cellsOf e) (len:=fun _=>P.cellsOf e) (cs:=cs) (fun x ps y hx hy'=>yS Fa n hx hy') ht h2 hm;rw [h1,← hl] at q1 q3;simp only [List.drop_zero,Nat.sub_zero,List.take_length] at q1 q3;exact ⟨qu,q1,q2,q3⟩
   ·cases hy
  ·cases h
def aaT (P:Program) (n:Nat) (t:TypeId):Option aM:=match P.underlying t with
 |some u=>match P5 P n t with
  |some ps=>yQ (Go.Am.nR u) ps
  |none=>none
 |none=>none
theorem VM (Fa:∀ b,spare b=true) {n:Nat} {t:TypeId} {p:aM} (hp:aaT P n t=some p) {v:Value} {d:DataW H} {pl:List MemPlace} {r:Reach} {base':Nat} (ht:DataW.Trod enc P w base spare held t v d pl) (fQ:abr P w r base' t v) :
  ∃ x:p.T,Rel (xq w) w (p.enc x) v∧p.wf x:=by
 obtain ⟨yR,ht⟩:=ht;have fin:∀ {a:AV},p.fits a=true→p.wf (p.bC a)→Rel (xq w) w a v→∃ x:p.T,Rel (xq w) w (p.enc x) v∧p.wf x:=fun {a} h1 h2 h3=>⟨p.bC a,(p.eM h1).jB _ _ _ h3,h2⟩
 unfold aaT at hp;split at hp
 ·rename_i u hu;split at hp
  ·rename_i ps h1;obtain ⟨qu,q1,q2,q3⟩:=yS Fa n h1 ht;obtain ⟨x,hx,f1,f2⟩:=JI hp q2;cases G4:Go.Am.nR u with
   |true=>
    rw [G4] at hx;simp only [if_true] at hx;subst hx;have:∃ cs,v=.agg cs:=by
     unfold abr at fQ;rw [hu] at fQ;cases u <;> first | (cases G4; done) | (obtain ⟨cs,h,_⟩:=fQ; exact ⟨cs,h⟩)
    obtain ⟨⟨cs⟩,rfl⟩:=this;exact fin f1 f2 (.agg q1 q3)
   |false=>
    rw [G4] at hx;simp only [Bool.false_eq_true,if_false] at hx;subst hx;have hv:v.cells.toList=[v]:=by
     cases v with
     |agg cs=>
      exfalso;unfold abr at fQ;rw [hu] at fQ;cases u <;> first | (cases G4; done) | (simp [Cell.okWide,Cell.ok,hu] at fQ)
     |_=>rfl
    rw [hv] at q1;cases q1 with
    |cons q1 _=>exact fin f1 f2 q1
  ·cases hp
 ·cases hp
def JJ (P:Program) (n:Nat):List TypeId→Option (List aM)
 |[]=>some []
 |t :: l=>match aaT P n t,JJ P n l with
  |some p,some r=>some (p :: r)
  |_,_=>none
theorem JK (Fa:∀ b,spare b=true) {n:Nat} {r:Reach} {base':Nat}:∀ {ts:List TypeId} {ps:List aM} {vs:List Value} {ds:List (DataW H)} {pl:List MemPlace},JJ P n ts=some ps→DataW.TrodAll enc P w base spare held ts vs ds pl →
  (∀ (j:Nat) t v,ts[j]?=some t→vs[j]?=some v→abr P w r base' t v)→∃ x:(pw ps).T,aQ (xq w) w ((pw ps).enc x) vs∧(pw ps).wf x
 |[],ps,vs,ds,pl,hp,ht,_=>by
  simp only [JJ] at hp;cases hp;cases vs with
  |nil=>exact ⟨(),.nil,trivial⟩
  |cons _ _=>cases ds <;> exact ht.elim
 |t :: ts,ps,vs,ds,pl,hp,ht,fQ=>by
  unfold JJ at hp;split at hp
  ·rename_i p r h1 h2;cases hp;cases vs with
   |nil=>cases ds <;> exact ht.elim
   |cons v vs=>
    cases ds with
    |nil=>exact ht.elim
    |cons d ds=>
     obtain ⟨p1,p2,k1,k2,_⟩:=ht;obtain ⟨x,q1,q2⟩:=VM Fa h1 k1 (fQ 0 t v rfl rfl);obtain ⟨y,q3,q4⟩:=JK Fa h2 k2 (fun j t v hj hv=>fQ (j+1) t v (by simpa using hj) (by simpa using hv));cases r with
     |nil=>
      cases q3;exact ⟨x,.one q1,q2⟩
     |cons p' r=>exact ⟨(x,y),.cons q1 q3,q2,q4⟩
  ·cases hp
end read
end Go.Am
