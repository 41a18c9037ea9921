/- The abstract machine: an evaluator of code on states with leaves. -/
import Derived.Test.YtophnjjjmikmeaaGreatAmKK
set_option linter.all false
namespace Go.Am
open Go
structure bl where
 ps:aK
 p:aj
 T:ps.T→Option p.T
def av (E:Env) (g:FuncId) (e:bl):Prop:=∀ x y,e.T x=some y→bz E g (e.ps.enc x) (fun r=>r=e.p.enc y)
inductive XK
 | norm
 | ret
 | ex (id:Nat)
def XK.is:XK→Exit→Bool
 | .norm,.normal=>true
 | .ret,.ret=>true
 | .ex i,.exit j=>Nat.beq i j
 | _,_=>false
def XK.exit:XK→Exit
 | .norm=>.normal
 | .ret=>.ret
 | .ex i=>.exit i
theorem XK.Gv {k:XK} {e:Exit} (h:k.is e=true):e=k.exit:=by
 cases k <;> cases e <;> simp_all [XK.is,XK.exit]
def JT:List (XK × bI)→Type
 | []=>Empty
 | [x]=>x.2.ps.T
 | x :: y :: l=>x.2.ps.T ⊕ JT (y :: l)
def ik (s:St):(outs:List (XK × bI))→Exit→St→Option (JT outs)
 | [],_,_=>none
 | [x],e,s'=>bif x.1.is e then x.2.dec s s' else none
 | x :: y :: l,e,s'=>bif x.1.is e then (x.2.dec s s').bind fun v=>some (.inl v) else (ik s (y :: l) e s').bind fun o=>some (.inr o)
def IV {α:Type} (s:St):(outs:List (XK × bI))→JT outs→(Exit→St→α)→α
 | [],o,_=>Empty.rec (fun _=>α) o
 | [x],o,K=>K x.1.exit (x.2.st s o)
 | x :: y :: l,o,K=>Sum.elim (fun v=>K x.1.exit (x.2.st s v)) (fun o=>IV s (y :: l) o K) o
inductive dL
 | loop (gh:List (Loc × Nat × TypeId)) (head:bI) (outs:List (XK × bI))
 | join (outs:List (XK × bI))
 | YN (k:List Bool) (gh:List (Loc × Nat × TypeId)) (head:bI) (outs:List (XK × bI))
 | alt (n:Nat) (a b:dL)
 | iB (gh:List (Loc × Nat × TypeId)) (head:bI) (outs:List (XK × bI))
 | U8 (gh:List (Loc × Nat × TypeId)) (head:bI)
 | Kh (t:Tmp) (sz:Nat) (e:TypeId) (head:bI) (outs:List (XK × bI))
def Ki (n:Nat):dL→dL
 | .alt m a b=>bif Nat.beq n m then Ki n a else Ki n b
 | c=>c
def aZ {V X:Type} (rd:V→Option (V ⊕ X)):Nat→V→Option X
 | 0,_=>none
 | n+1,v=>(rd v).bind fun o=>Sum.elim (fun v'=>aZ rd n v') (fun x=>some x) o
def iB {V X:Type} (rd:(V→Option X)→V→Option X):Nat→V→Option X
 | 0,_=>none
 | n+1,v=>rd (iB rd n) v
structure Bg (E:Env) (g:FuncId) where
 f:List AV→List GO→Option (Bool × AV × List GO)
 ok:∀ args G r G',f args G=some (true,r,G')→cJ E g args G (fun r' Po=>r'=r∧Po=G')
structure QW (E:Env) (g:FuncId) where
 ps:aK
 outs:List RF
 T:ps.T→Option (XT outs)
 ok:∀ x y,T x=some y→xi E g (ps.enc x) outs (fun z=>z=y)
structure gn where
 D:MW
 DH:FuncId→Option bl
 sO:FuncId→Nat→Option dL
 fz:Bool
 N:Nat
 gt:(g:FuncId)→Option (Bg D.toEnv g):=fun _=>none
 xt:(g:FuncId)→Option (QW D.toEnv g):=fun _=>none
def oE {α:Type} (fz:Bool) (s:St) (K:St→α):α:=match fz with
 | true=>E4 s K
 | false=>match s with
  | ⟨sl,bx,G,m,ro,n⟩=>K ⟨sl,bx,G,m,ro,n⟩
theorem cA {α:Type} (fz:Bool) (s:St) (K:St→α):oE fz s K=K s:=by
 cases fz
 ·rfl
 ·exact H3 s K
abbrev nV (X:Type):=FuncId→List AV→List GO→(AV→List GO→Option X)→Option X
abbrev lA (X:Type):=Nat→List AV→List GO→(Bool→List GO→Option X)→Option X
section ev
variable {X:Type}
def Bh (E:Env) (s:St) (o:Oper):Option (Int × Nat × (Nat→Oper)):=match o.op with
 | .index t x (.tmp y)=>match bp E s.ae (.tmp y),E.ti t with
  | .v (.int k n),some i=>match i.k with
   | .arr len _ _=>some (n,len,fun j=>{ o with op:=.index t x (.const (.int k j)) })
   | _=>none
  | _,_=>none
 | .indexAddr t x (.tmp y)=>match bp E s.ae (.tmp y),E.ti t with
  | .v (.int k n),some i=>match i.k with
   | .arr len _ _=>match bp E s.ae x with
    | .v (.ep _)=>match E.Ml t with
     | some _=>none
     | none=>some (n,len,fun j=>{ o with op:=.indexAddr t x (.const (.int k j)) })
    | _=>some (n,len,fun j=>{ o with op:=.indexAddr t x (.const (.int k j)) })
   | _=>none
  | _,_=>none
 | _=>none
def uX (E:Env) (fz:Bool) (f:FuncId) (g:Nat→Oper) (n:Int) (K:St→Option X) (s:St):Nat→Nat→Option X
 | 0,_=>none
 | m+1,j=>bif decide (n=(j:Int)) then (match ao E f s (g j) with
   | some (c,s')=>bif c then oE fz s' K else none
   | _=>none) else uX E fz f g n K s m (j+1)
def QX (E:Env) (fz:Bool) (call:nV X) (kX:lA X) (f:FuncId) (o:Oper) (K:St→Option X) (s:St):Option X:=
 match o.op with
 | .call { callee:=.value x,args,.. }=>match bp E s.ae x,kN E s.ae args.toList with
  | .v (.fn g first cap),some l=>call g (first++l++cap) s.G (fun r G'=>oE fz ((s.bn G').put o.dst (.v r)) K)
  | .v (.yield id),some l=>kX id l s.G (fun b G'=>oE fz ((s.bn G').put o.dst (.v (.bool b))) K)
  | _,_=>none
 | .defer _=>none
 | .next x true=>match Ka s o.dst (bp E s.ae x) with
  | some (b,s1,s2)=>bif b then oE fz s1 K else oE fz s2 K
  | none=>none
 | .lookup t m k ok=>match uT E s t (bp E s.ae m) (bp E s.ae k) with
  | some (c,v,b)=>bif c then oE fz (s.put o.dst (.v (if ok then .bF [v,.bool b] else v))) K else none
  | none=>match ao E f s o with
   | some (c,s')=>bif c then oE fz s' K else none
   | _=>none
 | .mapUpdate t m k x=>match o.dst,uU E s t (bp E s.ae m) (bp E s.ae k) (bp E s.ae x) with
  | none,some (c,s')=>bif c then oE fz s' K else none
  | _,_=>none
 | .insert t m k x=>match o.dst,uU E s t (bp E s.ae m) (bp E s.ae k) (bp E s.ae x) with
  | none,some (c,s')=>bif c then oE fz s' K else none
  | _,_=>none
 | .call { callee:=.builtin .append,args,argTypes }=>match gu E f s o with
  | some (c,s')=>bif c then oE fz s' K else none
  | none=>match kN E s.ae args.toList with
   | some l=>match Bb E s o.dst l argTypes.toList with
    | some (b,s1,c,s2)=>bif b then oE fz s1 K else bif c then oE fz s2 K else none
    | none=>match ao E f s o with
     | some (c,s')=>bif c then oE fz s' K else none
     | _=>none
   | none=>none
 | .call { callee:=.builtin .copy,args,argTypes }=>match kN E s.ae args.toList with
  | some l=>match Kc E s o.dst l argTypes.toList with
   | some (c,s')=>bif c then oE fz s' K else none
   | none=>match ao E f s o with
    | some (c,s')=>bif c then oE fz s' K else none
    | _=>none
  | none=>none
 | _=>match Bh E s o with
  | some (n,len,g)=>uX E fz f g n K s len 0
  | none=>match ao E f s o with
   | some (c,s')=>bif c then oE fz s' K else none
   | _=>none
def nW (E:Env) (fz:Bool) (call:nV X) (kX:lA X) (f:FuncId) (ops:List Oper) (o:Oper) (K:St→Option X) (s:St):Option X:=
 match o.guard with
 | none=>QX E fz call kX f o K s
 | some (j,want)=>match nF ops j with
  | none=>none
  | some d=>match lk s.ae d with
   | .v (.bool b)=>match want with
    | true=>bif b then oE fz (s.put (some d) (.v (.bool true))) (QX E fz call kX f o K) else oE fz ((s.put (some d) (.v (.bool false))).put o.dst (.v fu)) K
    | false=>bif b then oE fz ((s.put (some d) (.v (.bool true))).put o.dst (.v fu)) K else oE fz (s.put (some d) (.v (.bool false))) (QX E fz call kX f o K)
   | .v (.bF [])=>oE fz (s.put o.dst (.v fu)) K
   | _=>none
def Bi (E:Env) (fz:Bool) (call:nV X) (kX:lA X) (f:FuncId) (ops:List Oper) (o:Oper) (K:St→Option X) (s:St):Option X:=
 match o.guard,iU E f s o with
 | none,some s'=>oE fz s' K
 | _,_=>nW E fz call kX f ops o K s
noncomputable def M4 {X:Type} (l:List Nat) (F:Nat→Option X):Option X:=match l with
 | []=>none
 | i :: r=>@ite _ (∀ j∈r,F j=F i) (Classical.propDecidable _) (F i) none
theorem Ib {X:Type} {l:List Nat} {F:Nat→Option X} {x:X} (h:M4 l F=some x):∀ i∈l,F i=some x:=by
 cases l with
 | nil=>cases h
 | cons i r=>
  have h:@ite _ (∀ j∈r,F j=F i) (Classical.propDecidable _) (F i) none=some x:=h
  by_cases hr:∀ j∈r,F j=F i
  ·rw [if_pos hr] at h
   intro j hj
   rcases List.mem_cons.1 hj with rfl | hj
   ·exact h
   ·rw [hr j hj]; exact h
  ·rw [if_neg hr] at h
   cases h
theorem M5 {X:Type} {l:List Nat} {F:Nat→Option X} {x:X} (hl:l≠[]) (h:∀ i∈l,F i=some x):M4 l F=some x:=by
 cases l with
 | nil=>exact absurd rfl hl
 | cons i r=>
  show @ite _ (∀ j∈r,F j=F i) (Classical.propDecidable _) (F i) none=some x
  have hr:∀ j∈r,F j=F i:=fun j hj=>by rw [h j (List.mem_cons_of_mem _ hj),h i List.mem_cons_self]
  rw [if_pos hr]
  exact h i List.mem_cons_self
noncomputable def uY (E:Env) (fz:Bool) (call:nV X) (kX:lA X) (f:FuncId) (ops:List Oper) (o:Oper) (K:St→Option X) (s:St):Option X:=
 match o.guard,te E f s o,sh E s o with
 | none,some (c,s'),_=>bif c then oE fz s' K else none
 | none,none,some (c,s0,left,g)=>bif c then (bif left.isEmpty then oE fz s0 K else M4 left fun i=>bif (g i).1 then oE fz (g i).2 K else none) else none
 | _,_,_=>Bi E fz call kX f ops o K s
noncomputable def Bj (E:Env) (fz:Bool) (call:nV X) (kX:lA X) (f:FuncId) (ops:List Oper) (o:Oper) (K:St→Option X) (s:St):Option X:=
 match Hk E f s o with
 | some (c,s')=>bif c then uY E fz call kX f ops o K s' else none
 | none=>uY E fz call kX f ops o K s
noncomputable def M6 (E:Env) (fz:Bool) (call:nV X) (kX:lA X) (f:FuncId) (ops:List Oper):List Oper→(St→Option X)→St→Option X
 | [],K,s=>K s
 | o :: rest,K,s=>Bj E fz call kX f ops o (fun s'=>match zz E f o s' with
  | some (c,s2)=>bif c then M6 E fz call kX f ops rest K s2 else none
  | none=>none) s
def QY (E:Env) (f:FuncId) (ops:List Oper) (o:Oper) (s:St):Bool:=match o.op,o.dst with
 | .lookup t m k ok,some d=>match BQ ops s o,uT E s t (bp E s.ae m) (bp E s.ae k) with
  | some true,some (c,v,b)=>c&&A2 (.v (if ok then .bF [v,.bool b] else v)) (lk s.ae d)
  | _,_=>WM E f ops o s
 | _,_=>WM E f ops o s
def oF (E:Env) (f:FuncId) (ops:List Oper):List Nat→St→Bool
 | [],_=>true
 | k :: l,s=>(match nth ops k with
  | some ok=>QY E f ops ok s
  | none=>true)&&oF E f ops l s
def oT (E:Env) (fz:Bool) (call:nV X) (kX:lA X) (eJ:Option X→Option X→Option X) (f:FuncId) (ops:List Oper):DT→(St→Option X)→St→Option X
 | .done,K,s=>K s
 | .take j _ t,K,s=>match nth ops j with
  | some oj=>nW E fz call kX f ops oj (oT E fz call kX eJ f ops t K) s
  | none=>none
 | .br i re _ t .stop,K,s=>match nth ops i with
  | some oi=>nW E fz call kX f ops oi (fun s'=>bif oF E f ops re s' then oT E fz call kX eJ f ops t K s' else none) s
  | none=>none
 | .br i re _ t more,K,s=>eJ (match nth ops i with
  | some oi=>nW E fz call kX f ops oi (fun s'=>bif oF E f ops re s' then oT E fz call kX eJ f ops t K s' else none) s
  | none=>none) (oT E fz call kX eJ f ops more K s)
 | .stop,_,_=>none
 | .al j W t,K,s=>match nth ops j with
  | some oj=>bif QH E f oj W s then nW E fz call kX f ops oj (oT E fz call kX eJ f ops t K) s else none
  | none=>none
end ev
def zQ {X:Type} (N:St→Option X) (Q:Exit→St→Option X):Exit→St→Option X
 | .normal,s=>N s
 | e,s=>Q e s
def Kj {X:Type} (id:Nat) (Q:Exit→St→Option X):Exit→St→Option X
 | .exit gZ,s=>bif Nat.beq gZ id then Q .normal s else Q (.exit gZ) s
 | e,s=>Q e s
def QZ {X:Type} (Q:Exit→St→Option X):Exit→St→Option X
 | .goto _,_=>none
 | e,s=>Q e s
def Kk {X:Type} (E:Env) (fn:Func) (K:AV→List GO→Option X):Exit→St→Option X
 | .normal,s | .ret,s=>match nH s.marks s.G with
  | some G=>match JN E (s.bn G) fn with
   | some r=>K r G
   | none=>none
  | none=>none
 | _,_=>none
def tT (s:St) (head:bI) (outs:List (XK × bI)):Exit→St→Option (head.ps.T ⊕ JT outs)
 | .normal,s'=>(head.dec s s').bind fun v=>some (.inl v)
 | e,s'=>(ik s outs e s').bind fun o=>some (.inr o)
noncomputable def yt {X:Type} (a b:Option X):Option X:=@ite _ (a=b) (Classical.propDecidable _) a none
def tU {X:Type} (eJ:Option X→Option X→Option X):Prop:=∀ a b x,eJ a b=some x→a=some x∧b=some x
def Fm {X:Type} (id:Nat) (K:Bool→List GO→Option X):Exit→St→Option X:=fun e s=>match nth s.G id with
 | some (.loop _ _ fn sl n ps pI bd d _)=>match e with
  | .normal=>K true (au s.G id (.loop false none fn sl n ps pI bd d false))
  | .ret=>K false (au s.G id (.loop false (some .ret) fn sl n ps pI bd d true))
  | .exit i=>K false (au s.G id (.loop false (some (.exit i)) fn sl n ps pI bd d true))
  | _=>none
 | _=>none
def WS (fp:Nat):Nat:=fp % 4096
def fpP (fp:Nat):Nat:=fp / 4096
abbrev TP:=FuncId→Nat→Code→(X:Type)→(Option X→Option X→Option X)→(Exit→St→Option X)→St→Option X
section
variable (C:gn) (ih:TP)
def CZ {X:Type} (eJ:Option X→Option X→Option X):nV X:=fun g args G K=>
 bif C.D.okF g then match C.D.P.funcs[g]? with
   | some fn=>match fn.body with
    | some b => bif !(fn.name == "runtime.NumGoroutine") then ih g 1 b X eJ (Kk C.D.toEnv fn (bif C.D.vf g 131072 then QS C.D.toEnv (C.D.vf g 131073) (C.D.vf g 131074) fn.resultTypes.toList K else K)) (St.init fn.ntmps args G) else none
    | none=>none
   | none=>none
  else none
def zR {X:Type} (eJ:Option X→Option X→Option X):nV X:=fun g args G K=>
 match C.DH g with
 | some e=>(e.ps.dec args).bind fun x=>(e.T x).bind fun y=>K (e.p.enc y) G
 | none=>match C.gt g with
  | some e=>match e.f args G with
   | some (c,r,G')=>bif c then K r G' else none
   | none=>none
  | none=>match C.xt g with
   | some e=>(e.ps.dec args).bind fun x=>(e.T x).bind fun o=>TM G K e.outs o
   | none=>CZ C ih eJ g args G K
def M7 (n:Nat):List Tmp→Bool
 | []=>true
 | t :: l=>Nat.blt t n&&M7 n l
def M8 {X:Type} (eJ:Option X→Option X→Option X):lA X:=fun id args G K=>match nth G id with
 | some (.loop false _ fp sl n ps pI bd _ false)=>
  bif Nat.beq args.length ps.length&&M7 n ps&&bA (C.D.dt (WS fp)) pI&&bA (C.D.dt (WS fp)) bd then
   ih (WS fp) (2 * fpP fp) pI X eJ (fun e s1=>match e with
    | .normal=>match nth s1.G id with
     | some (.loop false p fn sl n ps pI TJ d false)=>ih (WS fp) (2 * fpP fp+1) bd X eJ (Fm id K) (s1.bn (au s1.G id (.loop true p fn sl n ps pI TJ d false)))
     | _=>none
    | _=>none) (St.round id (xd ps args sl) n G)
  else none
 | _=>none
noncomputable def xn (f:FuncId) (p:Nat) (c:Code) (X:Type) (eJ:Option X→Option X→Option X) (K:Exit→St→Option X) (s:St):Option X:=
 match c with
 | .skip=>K .normal s
 | .label _=>K .normal s
 | .seq x y=>ih f (2 * p) x X eJ (zQ (ih f (2 * p+1) y X eJ K) K) s
 | .cond c x y=>match bp C.D.toEnv s.ae c with
  | .v (.bool b)=>bif b then ih f (2 * p) x X eJ K s else ih f (2 * p+1) y X eJ K s
  | _=>none
 | .block id c=>ih f (2 * p) c X eJ (Kj id K) s
 | .exit id=>K (.exit id) s
 | .ret=>K .ret s
 | .region _ ops false=>M6 C.D.toEnv C.fz (zR C ih eJ) (M8 C ih eJ) f ops.toList ops.toList (K .normal) s
 | .region id ops true=>match C.D.dt f id with
  | some pl=>oT C.D.toEnv C.fz (zR C ih eJ) (M8 C ih eJ) eJ f ops.toList pl.T (K .normal) s
  | none=>none
 | .scope c=>ih f (2 * p) c X eJ (QZ K) s
 | .loop c=>ih f (2 * p) c X eJ (zQ (ih f p (.loop c) X eJ K) K) s
 | .rangeFunc g ps pI bd=>match s.ro with
  | none=>match bp C.D.toEnv s.ae g with
   | .v (.fn h first cap)=>zR C ih eJ h (first++[.yield (s.G.length+1)]++cap) (s.G++[.defers true]++[.loop false none (4096 * p+f) (eR s.ae) s.n ps.toList pI bd s.G.length false])
    (fun _ G'=>match nth G' (s.G.length+1) with
     | some (.loop busy pending _ _ _ _ _ _ _ done)=>bif !busy || done then
       match pending with
       | none=>oE C.fz ⟨s.ae,s.boxes,au G' (s.G.length+1) .dead,s.G.length :: s.marks,s.ro,s.n⟩ (K .normal)
       | some .ret=>oE C.fz ⟨s.ae,s.boxes,au G' (s.G.length+1) .dead,s.G.length :: s.marks,s.ro,s.n⟩ (K .ret)
       | some (.exit i)=>oE C.fz ⟨s.ae,s.boxes,au G' (s.G.length+1) .dead,s.G.length :: s.marks,s.ro,s.n⟩ (K (.exit i))
       | _=>none
      else none
     | _=>none)
   | _=>none
  | some id=>match nth s.G id with
   | some (.loop _ _ _ _ _ _ _ _ d0 _)=>match bp C.D.toEnv s.ae g with
    | .v (.fn h first cap)=>zR C ih eJ h (first++[.yield s.G.length]++cap) (s.G++[.loop false none (4096 * p+f) (eR s.ae) s.n ps.toList pI bd d0 false])
     (fun _ G'=>match nth G' s.G.length with
      | some (.loop busy pending _ _ _ _ _ _ _ done)=>bif !busy || done then
        match pending with
        | none=>oE C.fz ⟨s.ae,s.boxes,au G' s.G.length .dead,s.marks,s.ro,s.n⟩ (K .normal)
        | some .ret=>oE C.fz ⟨s.ae,s.boxes,au G' s.G.length .dead,s.marks,s.ro,s.n⟩ (K .ret)
        | some (.exit i)=>oE C.fz ⟨s.ae,s.boxes,au G' s.G.length .dead,s.marks,s.ro,s.n⟩ (K (.exit i))
        | _=>none
       else none
      | _=>none)
    | _=>none
   | _=>none
 | _=>none
def Fo:List Oper→List Tmp
 | []=>[]
 | o :: l=>match o.dst with
  | some d=>d :: Fo l
  | none=>Fo l
def il:Code→List Tmp→List Tmp
 | .region _ ops _,r=>Fo ops.toList++r
 | .seq x y,r=>il x (il y r)
 | .cond _ x y,r=>il x (il y r)
 | .block _ c,r=>il c r
 | .scope c,r=>il c r
 | .loop c,r=>il c r
 | .rangeFunc _ ps a b,r=>ps.toList++il a (il b r)
 | _,r=>r
def nX (W:List Tmp) (t:bI):bI:=⟨t.ps,t.sl,W,t.bx,t.g,t.TG⟩
def nY (W:List Tmp):List (XK × bI)→List (XK × bI)
 | []=>[]
 | (k,t) :: l=>(k,nX W t) :: nY W l
def Kl:Code→Bool
 | .loop _=>true
 | _=>false
noncomputable def U9 {X:Type} (f:FuncId) (p:Nat) (c:Code) (outs:List (XK × bI)) (K:Exit→St→Option X) (s:St):Option X:=
 (xn C ih f p c (JT outs) yt (ik s outs) s).bind fun o=>IV s outs o K
noncomputable def Pt {X:Type} (f:FuncId) (p:Nat) (b:Code) (s1:St) (head:bI) (outs:List (XK × bI)) (K:Exit→St→Option X):Option X:=
 (head.dec s1 s1).bind fun v0=>(aZ (fun v=>ih f (2 * p) b (head.ps.T ⊕ JT outs) yt (tT s1 head outs) (head.st s1 v)) C.N v0).bind fun o=>IV s1 outs o K
def Km (s:St) (head:bI) (outs:List (XK × bI)) (k:head.ps.T→Option (JT outs)):Exit→St→Option (JT outs)
 | .normal,s'=>(head.dec s s').bind k
 | e,s'=>ik s outs e s'
noncomputable def Kn {X:Type} (f:FuncId) (p:Nat) (b:Code) (s1:St) (head:bI) (outs:List (XK × bI)) (K:Exit→St→Option X):Option X:=
 (head.dec s1 s1).bind fun v0=>(iB (fun k v=>ih f (2 * p) b (JT outs) yt (Km s1 head outs k) (head.st s1 v)) C.N v0).bind fun o=>IV s1 outs o K
def Ko {X:Type} (s:St) (head:bI) (K:Exit→St→Option X) (k:head.ps.T→Option X):Exit→St→Option X
 | .normal,s'=>(head.dec s s').bind k
 | e,s'=>K e s'
noncomputable def Kp {X:Type} (f:FuncId) (p:Nat) (b:Code) (s1:St) (head:bI) (K:Exit→St→Option X):Option X:=
 (head.dec s1 s1).bind fun v0=>iB (fun k v=>ih f (2 * p) b X yt (Ko s1 head K k) (head.st s1 v)) C.N v0
def Kq (s:St) (head:bI) (outs:List (XK × bI)) (t:Tmp) (sz:Nat) (e:TypeId):Exit→St→Option (head.ps.T ⊕ JT outs)
 | .normal,s'=>match rq s' t sz e with
  | some (c,s2)=>bif c then (head.dec s s2).bind fun v=>some (.inl v) else none
  | none=>none
 | x,s'=>(ik s outs x s').bind fun o=>some (.inr o)
noncomputable def Fp {X:Type} (f:FuncId) (p:Nat) (b:Code) (s1:St) (head:bI) (outs:List (XK × bI)) (t:Tmp) (sz:Nat) (e:TypeId) (K:Exit→St→Option X):Option X:=
 (head.dec s1 s1).bind fun v0=>(aZ (fun v=>match tS (head.st s1 v) t sz e with
  | some s2=>ih f (2 * p) b (head.ps.T ⊕ JT outs) yt (Kq s1 head outs t sz e) s2
  | none=>none) C.N v0).bind fun o=>IV s1 outs o K
def Kr {X:Type} (eJ:Option X→Option X→Option X) (f:FuncId) (K:Exit→St→Option X):List Bool→Nat→Code→St→Option X
 | [],_,_,s=>K .normal s
 | true :: k,q,.seq x y,s=>ih f (2 * q) x X eJ (zQ (Kr eJ f K k (2 * q+1) y) K) s
 | false :: k,q,.seq x _,s=>Kr eJ f K k (2 * q) x s
 | _ :: _,_,_,_=>none
def M9 {X:Type} (eJ:Option X→Option X→Option X) (f:FuncId):List Bool→Nat→Code→(Exit→St→Option X)→St→Option X
 | [],q,c,K,s=>ih f q c X eJ K s
 | true :: k,q,.seq _ y,K,s=>M9 eJ f k (2 * q+1) y K s
 | false :: k,q,.seq x y,K,s=>M9 eJ f k (2 * q) x (zQ (ih f (2 * q+1) y X eJ K) K) s
 | _ :: _,_,_,_,_=>none
noncomputable def Va {X:Type} (f:FuncId) (p:Nat) (b:Code) (k:List Bool) (s1:St) (head:bI) (outs:List (XK × bI)) (K:Exit→St→Option X):Option X:=
 ((Kr ih yt f (tT s1 head outs) k (2 * p) b s1).bind fun r0=>
  Sum.elim (fun v0=>aZ (fun v=>M9 ih yt f k (2 * p) b (zQ (Kr ih yt f (tT s1 head outs) k (2 * p) b) (tT s1 head outs)) (head.st s1 v)) C.N v0) (fun x=>some x) r0).bind fun o=>IV s1 outs o K
noncomputable def xo (f:FuncId) (p:Nat) (c:Code) (X:Type) (eJ:Option X→Option X→Option X) (K:Exit→St→Option X) (s:St):Option X:=
 match C.sO f p with
 | none=>xn C ih f p c X eJ K s
 | some ct=>match Ki s.G.length ct with
  | .join outs=>bif Kl c then none else U9 C ih f p c (nY (il c []) outs) K s
  | .loop gh head outs=>match c with
   | .loop b=>match fC gh s with
    | some s1=>Pt C ih f p b s1 (nX (il b []) head) (nY (il b []) outs) K
    | none=>none
   | _=>none
  | .YN k gh head outs=>match c with
   | .loop b=>match fC gh s with
    | some s1=>Va C ih f p b k s1 (nX (il b []) head) (nY (il b []) outs) K
    | none=>none
   | _=>none
  | .iB gh head outs=>match c with
   | .loop b=>match fC gh s with
    | some s1=>Kn C ih f p b s1 (nX (il b []) head) (nY (il b []) outs) K
    | none=>none
   | _=>none
  | .U8 gh head=>match c with
   | .loop b=>match fC gh s with
    | some s1=>Kp C ih f p b s1 (nX (il b []) head) K
    | none=>none
   | _=>none
  | .Kh t sz e head outs=>match c with
   | .loop b=>match rq s t sz e with
    | some (cc,s1)=>bif cc then Fp C ih f p b s1 (nX (il b []) head) (nY (il b []) outs) t sz e K else none
    | none=>none
   | _=>none
  | .alt _ _ _=>none
end
noncomputable def ev (C:gn):Nat→TP:=Nat.rec (fun _ _ _ _ _ _ _=>none) (fun _ ih=>xo C ih)
end Go.Am
namespace Go.Am
open Go
section ext
variable {E:Env} {f:FuncId} {s s':St} {o:Oper}
theorem aB.put (s:St) (d:Option Tmp) (x:SV):aB s (s.put d x):=by
 cases d with
 | none=>exact aB.refl s
 | some d=>
  simp only [St.put]
  split
  ·exact ⟨⟨[_],rfl⟩,⟨[],rfl⟩,rfl⟩
  ·exact aB.refl s
theorem aB.bn (s:St) (G:List GO):aB s (s.bn G):=⟨⟨[],rfl⟩,⟨[],rfl⟩,rfl⟩
theorem aB.df (s:St) (o:GO):aB s (s.df o):=⟨⟨[],rfl⟩,⟨[],rfl⟩,rfl⟩
theorem aB.ta (s:St) (d:Nat) (cs:List AV):aB s (s.ta d cs):=⟨⟨[],rfl⟩,⟨[_],rfl⟩,rfl⟩
theorem aB.kill (s:St) (d:Nat):aB s (s.kill d):=⟨⟨[_],rfl⟩,⟨[],rfl⟩,rfl⟩
theorem Ic {c:Bool} {s':St} (h:gu E f s o=some (c,s')):aB s s':=by
 unfold gu at h
 repeat' (split at h)
 all_goals (first | (cases h; done) | skip)
 all_goals (injection h with h; injection h with _ h; subst h; exact (aB.bn _ _).trans (aB.put _ _ _))
theorem Fq {t:TypeId} {p x:SV} {c:Bool} {s':St} (h:er E s t p x=some (c,s')):aB s s':=by
 have store:∀ {t:TypeId} {p x:SV} {s':St},gl E s t p x=some s'→aB s s':=by
  intro t p x s' h
  unfold gl at h
  repeat' (split at h)
  all_goals (first | (cases h; done) | skip)
  all_goals (injection h with h; subst h)
  ·exact aB.ta _ _ _
  ·exact aB.bn _ _
 unfold er at h
 repeat' (split at h)
 all_goals (first | (cases h; done) | skip)
 all_goals (injection h with h; injection h with _ h; subst h)
 all_goals (first | exact aB.bn _ _ | exact store (by assumption))
theorem Fs {t:TypeId} {p x:SV} {c:Bool} {s':St} (h:jl E s t p x=some (c,s')):aB s s':=by
 unfold jl at h
 split at h
 ·rename_i hs
  injection h with h; injection h with _ h
  subst h
  exact (aB.bn s (pn s p x).2.2).trans (Fq (s:=s.bn (pn s p x).2.2) hs)
 ·cases h
theorem Ft {c:Bool} (h:ao E f s o=some (c,s')):aB s s':=by
 have alloc:∀ {el:TypeId} {cs:List AV} {c:Bool} {s':St},eL E f s o.dst el cs=some (c,s')→aB s s':=by
  intro el cs c s' h
  unfold eL at h
  repeat' (split at h)
  all_goals (first | (cases h; done) | skip)
  ·injection h with h; injection h with _ h; subst h; exact (aB.df _ _).trans (aB.put _ _ _)
  ·injection h with h; injection h with _ h; subst h; exact ((aB.kill _ _).trans (aB.ta _ _ _)).trans (aB.put _ _ _)
 have store:∀ {t:TypeId} {p x:SV} {s':St},gl E s t p x=some s'→aB s s':=by
  intro t p x s' h
  unfold gl at h
  repeat' (split at h)
  all_goals (first | (cases h; done) | skip)
  all_goals (injection h with h; subst h)
  ·exact aB.ta _ _ _
  ·exact aB.bn _ _
 have Qx:∀ {t:TypeId} {p x:SV} {c:Bool} {s':St},er E s t p x=some (c,s')→aB s s':=by
  intro t p x c s' h
  unfold er at h
  repeat' (split at h)
  all_goals (first | (cases h; done) | skip)
  all_goals (injection h with h; injection h with _ h; subst h)
  all_goals (first | exact aB.bn _ _ | exact store (by assumption))
 have blt:∀ {b:Builtin} {l:List AV} {tys:List TypeId} {c:Bool} {s':St},bS E s o.dst b l tys=some (c,s')→aB s s':=by
  intro b l tys c s' h
  unfold bS at h
  repeat' (split at h)
  all_goals (first | (cases h; done) | skip)
  all_goals (injection h with h; injection h with _ h; subst h)
  all_goals (first | exact aB.put _ _ _ | exact (aB.bn _ _).trans (aB.put _ _ _) | exact aB.bn _ _)
 have update:∀ {t:TypeId} {m k x:SV} {s':St},eN E s t m k x=some s'→aB s s':=by
  intro t m k x s' h
  unfold eN at h
  repeat' (split at h)
  all_goals (first | (cases h; done) | skip)
  all_goals (injection h with h; subst h; exact aB.bn _ _)
 have next:∀ {x:SV} {s':St},kQ s o.dst x=some s'→aB s s':=by
  intro x s' h
  unfold kQ at h
  split at h
  ·split at h
   ·rename_i l pos hg
    cases hb:Nat.blt pos l.length <;> rw [hb] at h <;> simp only [cond_true,cond_false] at h <;> cases h
    ·exact aB.put _ _ _
    ·exact (aB.bn _ _).trans (aB.put _ _ _)
   ·cases h
  ·cases h
 have EF:∀ {t:TypeId} {m k:SV} {c:Bool} {v:AV} {s':St},fL E s t m k=some (c,v,s')→aB s s':=by
  intro t m k c v s' h
  unfold fL at h
  repeat' (split at h)
  all_goals (first | (cases h; done) | skip)
  all_goals (injection h with h; injection h with _ h; injection h with _ h; subst h; exact aB.bn _ _)
 have EG:∀ {m st x:SV} {c:Bool} {s':St},dM s m st x=some (c,s')→aB s s':=by
  intro m st x c s' h
  unfold dM at h
  repeat' (split at h)
  all_goals (first | (cases h; done) | skip)
  all_goals (injection h with h; injection h with _ h; subst h; exact aB.bn _ _)
 unfold ao mi at h
 repeat' (split at h)
 all_goals (first | (cases h; done) | exact alloc h | exact blt h | (rename_i hf; cases h; exact Ic hf) | skip)
 all_goals (injection h with h; injection h with _ h; subst h)
 all_goals (first | exact aB.put _ _ _ | exact (aB.df _ _).trans (aB.put _ _ _) | exact (aB.bn _ _).trans (aB.put _ _ _) | skip)
 all_goals (first | exact Fs (by assumption) | exact update (by assumption) | exact (EF (by assumption)).trans (aB.put _ _ _) | exact EG (by assumption) | exact next (by assumption))
theorem cJ.gq {g:FuncId} {args Pu:List AV} {G:List GO} {Q:AV→List GO→Prop} (hw:cz args Pu) (h:cJ E g Pu G Q):cJ E g args G Q:=
 ⟨h.1,fun R w cs hg hl=>h.2 R w cs hg (hw.rel hl)⟩
theorem C0 {K:St→Prop} (h:jM E f o K s):jM E f o (fun s'=>K s'∧aB s s') s:=by
 unfold jM at *
 split
 ·rename_i x args tys ho
  rw [ho] at h
  simp only at h
  split at h
  ·exact h.mono fun r G' hk=>⟨hk,(aB.bn _ _).trans (aB.put _ _ _)⟩
  ·exact h.mono fun r G' hk=>⟨hk,(aB.bn _ _).trans (aB.put _ _ _)⟩
  ·exact h
 ·rename_i ho
  rw [ho] at h
  exact h
 ·rename_i nc nd
  split at h
  ·rename_i ho
   exact absurd ho (nc _ _ _)
  ·exact h.elim
  ·split at h
   ·rename_i c s' hs
    obtain ⟨hc,hk⟩:=h.out
    exact di.mk hc ⟨hk,Ft hs⟩
   ·exact h.elim
theorem kY {K:St→Prop} {ops:List Oper} (h:b9 E f ops o K s):b9 E f ops o (fun s'=>K s'∧aB s s') s:=by
 unfold b9 at *
 split
 ·rename_i hg
  rw [hg] at h
  exact C0 h
 ·rename_i j want hg
  rw [hg] at h
  simp only at h
  split
  ·rename_i hd
   rw [hd] at h
   exact h
  ·rename_i d hd
   rw [hd] at h
   simp only at h
   split
   ·rename_i b hb
    rw [hb] at h
    simp only at h
    refine ⟨fun e=>?_,fun e=>⟨h.2 e,(aB.put _ _ _).trans (aB.put _ _ _)⟩⟩
    exact sI (C0 (h.1 e)) fun s' hh=>⟨hh.1,(aB.put _ _ _).trans hh.2⟩
   ·rename_i hb
    rw [hb] at h
    exact ⟨h,aB.put _ _ _⟩
   ·rename_i hb jC
    split at h
    ·rename_i b EQ
     exact absurd EQ (hb b)
    ·rename_i EQ
     exact absurd EQ jC
    ·exact h
theorem yP {K K':St→Prop} {ops:List Oper} (h:fD E f ops o K s) (hK:∀ s,K s→K' s):fD E f ops o K' s:=by
 unfold fD at *
 split
 ·rename_i s' h1 h2
  rw [h1,h2] at h
  exact hK _ h
 ·rename_i hn
  split at h
  ·rename_i s' h1 h2
   exact absurd h2 (hn s' h1)
  ·exact ca h hK
theorem uy {s':St} (h:iU E f s o=some s'):aB s s':=by
 unfold iU at h
 repeat' (split at h)
 all_goals (first | (cases h; done) | skip)
 all_goals (injection h with h; subst h; exact (aB.df _ _).trans (aB.put _ _ _))
theorem Bk {K:St→Prop} {ops:List Oper} (h:fD E f ops o K s):fD E f ops o (fun s'=>K s'∧aB s s') s:=by
 unfold fD at *
 split
 ·rename_i s' h1 h2
  rw [h1,h2] at h
  exact ⟨h,uy h2⟩
 ·rename_i hn
  split at h
  ·rename_i s' h1 h2
   exact absurd h2 (hn s' h1)
  ·exact kY h
theorem lB {K K':St→Prop} {ops:List Oper} (h:eV E f ops o K s) (hK:∀ s,K s→K' s):eV E f ops o K' s:=by
 unfold eV at *
 split at h
 ·obtain ⟨h1,h2⟩:=h.out
  exact di.mk h1 (hK _ h2)
 ·obtain ⟨h1,h2,h3⟩:=h.out
  exact di.mk h1 ⟨fun e=>hK _ (h2 e),fun i hi=>let ⟨k1,k2⟩:=(h3 i hi).out; di.mk k1 (hK _ k2)⟩
 ·exact yP h hK
theorem Fu {c:Bool} {s':St} (h:pt E f s o=some (c,s')):aB s s':=by
 unfold pt at h
 repeat' (split at h)
 all_goals (first | (cases h; done) | skip)
 all_goals (injection h with h; injection h with _ h; subst h; exact (aB.bn _ _).trans (aB.put _ _ _))
theorem Ks {c:Bool} {s':St} (h:DY E f s o=some (c,s')):aB s s':=by
 unfold DY at h
 repeat' (split at h)
 all_goals (first | (cases h; done) | skip)
 all_goals (injection h with h; injection h with _ h; subst h; exact (aB.bn _ _).trans (aB.put _ _ _))
theorem Ie {c:Bool} {s':St} (h:te E f s o=some (c,s')):aB s s':=by
 unfold te at h
 split at h
 ·rename_i r hr
  cases h
  exact Ks hr
 ·exact Fu h
theorem Fv {c:Bool} {s0:St} {left:List Nat} {g:Nat→Bool × St} (h:sh E s o=some (c,s0,left,g)):aB s s0∧∀ i,aB s (g i).2:=by
 unfold sh at h
 split at h
 ·unfold zd at h
  split at h
  ·split at h
   ·split at h
    ·cases h
     exact ⟨aB.put _ _ _,fun i=>(aB.bn _ _).trans (aB.put _ _ _)⟩
    ·cases h
   ·cases h
  ·cases h
 ·cases h
theorem rr {K:St→Prop} {ops:List Oper} (h:eV E f ops o K s):eV E f ops o (fun s'=>K s'∧aB s s') s:=by
 unfold eV at *
 split at h
 ·rename_i hb
  obtain ⟨h1,h2⟩:=h.out
  exact di.mk h1 ⟨h2,Ie hb⟩
 ·rename_i hb
  obtain ⟨h1,h2,h3⟩:=h.out
  obtain ⟨k1,k2⟩:=Fv hb
  exact di.mk h1 ⟨fun e=>⟨h2 e,k1⟩,fun i hi=>let ⟨q1,q2⟩:=(h3 i hi).out; di.mk q1 ⟨q2,k2 i⟩⟩
 ·exact Bk h
theorem lC {K K':St→Prop} {ops:List Oper} (h:eX E f ops o K s) (hK:∀ s,K s→K' s):eX E f ops o K' s:=by
 unfold eX at *
 split at h
 ·exact ⟨h.1,lB h.2 hK⟩
 ·exact lB h hK
theorem gS {cut wk:Bool}:∀ {l:List Operand} {s s':St} {c:Bool},gD cut wk l s=(c,s')→aB s s'
 | [],s,s',c,h=>by
  simp only [gD] at h
  cases h
  exact aB.refl _
 | .tmp t :: l,s,s',c,h=>by
  unfold gD at h
  split at h
  ·rename_i c1 s1 h1
   cases h2:gD cut wk l s1 with
   | mk c2 s2=>
   rw [h2] at h
   simp only [Prod.mk.injEq] at h
   obtain ⟨_,rfl⟩:=h
   exact (iY h1).trans (gS h2)
  ·exact gS h
 | .const _ :: l,s,s',c,h=>gS (l:=l) h
 | .global _ :: l,s,s',c,h=>gS (l:=l) h
 | .func _ :: l,s,s',c,h=>gS (l:=l) h
theorem Kt {s s':St} {o:Oper} {c:Bool} (h:Hk E f s o=some (c,s')):aB s s':=by
 unfold Hk at h
 split at h
 ·split at h
  ·injection h with h
   exact gS h
  ·cases h
 ·cases h
theorem Bl {K:St→Prop} {ops:List Oper} (h:eX E f ops o K s):eX E f ops o (fun s'=>K s'∧aB s s') s:=by
 unfold eX at *
 split at h
 ·rename_i c s' hz
  exact ⟨h.1,lB (rr h.2) fun s2 h2=>⟨h2.1,(Kt hz).trans h2.2⟩⟩
 ·exact rr h
theorem xp {s s':St} {l:Loc} {sz:Nat} {e:TypeId} (h:sF s l sz e=some s'):aB s s':=by
 unfold sF at h
 split at h
 ·cases h; exact aB.df _ _
 unfold qR at h
 cases EA:Nat.ble 196608 sz with
 | true=>rw [EA] at h; cases h; exact aB.df _ _
 | false=>
 rw [EA] at h
 cases l with
 | slot t=>
  simp only at h
  split at h
  ·cases h; exact ⟨⟨[_],rfl⟩,⟨[],rfl⟩,rfl⟩
  ·cases h
 | box k i=>
  simp only at h
  split at h
  ·split at h
   ·cases h; exact ⟨⟨[],rfl⟩,⟨[_],rfl⟩,rfl⟩
   ·cases h
  ·cases h
 | row id i=>
  simp only at h
  split at h
  ·split at h
   ·cases h; exact ⟨⟨[],rfl⟩,⟨[],rfl⟩,rfl⟩
   ·cases h
  ·cases h
theorem ko:∀ {l:List (Loc × Nat × TypeId)} {s s':St},fC l s=some s'→aB s s'
 | [],s,s',h=>by
  simp only [fC] at h
  cases h
  exact aB.refl _
 | (l,sz,e) :: r,s,s',h=>by
  unfold fC at h
  split at h
  ·rename_i s1 h1
   exact (xp h1).trans (ko h)
  ·cases h
theorem nZ:∀ {l:List (Loc × Nat × TypeId)} {s:St},aB s (iQ l s)
 | [],s=>aB.refl _
 | (l,sz,e) :: r,s=>by
  unfold iQ
  split
  ·rename_i s1 h1
   exact (xp h1).trans nZ
  ·exact nZ
theorem Ig {s s':St} {o:Oper} {c:Bool} (h:zz E f o s=some (c,s')):aB s s':=by
 unfold zz at h
 split at h
 ·cases h; exact aB.refl _
 ·split at h
  ·exact iY h
  ·split at h
   ·cases h; exact aB.refl _
   ·split at h
    ·exact Cp h
    ·split at h
     ·cases h; exact nZ
     ·cases h
theorem xq {K K':St→Prop} {ops:List Oper} (hK:∀ s,K s→K' s):∀ {l:List Oper} {s:St},nG E f ops l K s→nG E f ops l K' s
 | [],s,h=>hK s h
 | _ :: _,_,h=>lC h fun s' h'=>by
  unfold zA at *
  split at h'
  ·exact ⟨h'.1,xq hK h'.2⟩
  ·exact h'.elim
theorem xr {K K':St→Prop} {ops:List Oper} (hK:∀ s,K s→K' s) {T:DT} {s:St} (h:se E f ops T K s):se E f ops T K' s:=
 eZ (ops:=⟨ops⟩) hK T s h
theorem zS {K:St→Prop} {ops:List Oper}:∀ {l:List Oper} {s:St},nG E f ops l K s→nG E f ops l (fun s'=>K s'∧aB s s') s
 | [],s,h=>⟨h,aB.refl s⟩
 | o :: l,s,h=>by
  simp only [nG] at *
  refine lC (Bl h) fun s' hh=>?_
  obtain ⟨h1,h2⟩:=hh
  unfold zA at *
  split at h1
  ·rename_i c s2 hp
   exact ⟨h1.1,xq (fun s3 h3=>⟨h3.1,(h2.trans (Ig hp)).trans h3.2⟩) (zS h1.2)⟩
  ·exact h1.elim
theorem ru {K:St→Prop} {ops:List Oper}:∀ {T:DT} {s:St},se E f ops T K s→se E f ops T (fun s'=>K s'∧aB s s') s
 | .done,s,h=>⟨h,aB.refl s⟩
 | .stop,_,_=>trivial
 | .take j C T,s,h=>by
  unfold se at h ⊢
  split
  ·rename_i oj hj
   rw [hj] at h
   exact ca (kY h) fun s' hh=>xr (fun s2 h2=>⟨h2.1,hh.2.trans h2.2⟩) (ru hh.1)
  ·rename_i hj
   rw [hj] at h
   exact h
 | .al j W T,s,h=>by
  unfold se at h ⊢
  split
  ·rename_i oj hj
   rw [hj] at h
   exact ⟨h.1,ca (kY h.2) fun s' hh=>xr (fun s2 h2=>⟨h2.1,hh.2.trans h2.2⟩) (ru hh.1)⟩
  ·rename_i hj
   rw [hj] at h
   exact h
 | .br i re C T more,s,h=>by
  unfold se at h ⊢
  refine ⟨?_,ru h.2⟩
  have h:=h.1
  split
  ·rename_i oj hj
   rw [hj] at h
   exact ca (kY h) fun s' hh=>⟨hh.1.1,xr (fun s2 h2=>⟨h2.1,hh.2.trans h2.2⟩) (ru hh.1.2)⟩
  ·rename_i hj
   rw [hj] at h
   exact h
end ext
def jz (E:Env) (c:Code) (Q:Exit→St→Prop) (s:St):Prop:=eH E c (fun e s'=>Q e s'∧aB s s') s
section sound
variable {E:Env} {f:FuncId} {s:St} {X:Type} {fz:Bool} {call:nV X} {kX:lA X} {eJ:Option X→Option X→Option X} {x:X}
def mH (E:Env) (call:nV X):Prop:=∀ g args G K x,call g args G K=some x→cJ E g args G (fun r G'=>K r G'=some x)
def tV (E:Env) (kX:lA X):Prop:=∀ id args G K x,kX id args G K=some x→kf E id args G (fun b G'=>K b G'=some x)
theorem bc {α:Type} {c:Bool} {a:Option α} {x:α} (h:(bif c then a else none)=some x):c=true∧a=some x:=by
 cases c
 ·cases h
 ·exact ⟨rfl,h⟩
theorem bind_some {α β:Type} {a:Option α} {k:α→Option β} {x:β} (h:a.bind k=some x):∃ y,a=some y∧k y=some x:=by
 cases a with
 | none=>cases h
 | some y=>exact ⟨y,rfl,h⟩
theorem Ih {o:Oper} {n:Int} {len:Nat} {g:Nat→Oper} (h:Bh E s o=some (n,len,g)) {j:Nat} (hj:n=(j:Int)):ao E f s (g j)=ao E f s o:=by
 subst hj
 unfold Bh at h
 have PT:∀ k:IntKind,bp E s.ae (.const (.int k (j:Int)))=.v (.int k j):=fun k=>rfl
 split at h
 ·rename_i t x y ho
  split at h
  ·rename_i k n i h1 h2
   split at h
   ·injection h with h; injection h with e1 h; injection h with e2 h
    subst h; subst e1
    simp only [ao,ho,PT,h1]
   ·cases h
  ·cases h
 ·rename_i t x y ho
  split at h
  ·rename_i k n i h1 h2
   split at h
   ·split at h
    ·split at h
     ·cases h
     ·injection h with h; injection h with e1 h; injection h with e2 h
      subst h; subst e1
      simp only [ao,ho,PT,h1]
    ·injection h with h; injection h with e1 h; injection h with e2 h
     subst h; subst e1
     simp only [ao,ho,PT,h1]
   ·cases h
  ·cases h
 ·cases h
theorem oZ {o:Oper} {n:Int} {len:Nat} {g:Nat→Oper} (hi:Bh E s o=some (n,len,g)) {K:St→Option X}:∀ (m j:Nat),uX E fz f g n K s m j=some x→∃ c s',ao E f s o=some (c,s')∧c=true∧K s'=some x
 | 0,_,h=>by cases h
 | m+1,j,h=>by
  unfold uX at h
  by_cases hn:n=(j:Int)
  ·rw [decide_eq_true hn,cond_true,Ih hi hn] at h
   split at h
   ·rename_i c s' hs
    obtain ⟨h1,h2⟩:=bc h
    rw [cA] at h2
    exact ⟨c,s',hs,h1,h2⟩
   ·cases h
  ·rw [decide_eq_false hn,cond_false] at h
   exact oZ hi m (j+1) h
theorem xu {ops:List Oper} {o:Oper} (h:QY E f ops o s=true):EP E f ops o s:=by
 unfold QY at h
 split at h
 ·rename_i t m k ok d ho hd
  split at h
  ·rename_i c v b hg hs
   rw [Bool.and_eq_true] at h
   obtain ⟨rfl,h⟩:=h
   have hn:=rb hs
   unfold EP
   rw [hg]
   simp only
   have e:ao E f s o=some (true,s.put o.dst (.v (if ok then .bF [v,.bool b] else v))):=by simp only [ao,ho,hn]
   rw [hd] at e
   rw [hd,e]
   refine ⟨rfl,?_⟩
   unfold St.put
   simp only
   split
   ·rw [ax]
    exact zI h
   ·rfl
  ·exact zJ h
 ·exact zJ h
theorem pc {ops:List Oper}:∀ {l:List Nat} {s:St},oF E f ops l s=true→zF E f ops l s
 | [],_,_=>trivial
 | k :: l,s,h=>by
  unfold oF at h
  unfold zF
  rw [Bool.and_eq_true] at h
  refine ⟨?_,pc h.2⟩
  have h:=h.1
  split at h
  ·rename_i hk
   first
    | exact xu h
    | rw [hk]; exact xu h
  ·rename_i hk
   first
    | trivial
    | rw [hk]; trivial
theorem sP (hc:mH E call) (hr:tV E kX) {o:Oper} {K:St→Option X} (h:QX E fz call kX f o K s=some x):jM E f o (fun s=>K s=some x) s:=by
 unfold jM
 split
 ·rename_i y args tys ho
  unfold QX at h
  rw [ho] at h
  simp only at h
  split at h
  ·rename_i h1 h2
   rw [h1,h2]
   refine (hc _ _ _ _ _ h).mono fun r G' hk=>?_
   rw [cA] at hk
   exact hk
  ·rename_i h1 h2
   rw [h1,h2]
   refine (hr _ _ _ _ _ h).mono fun r G' hk=>?_
   rw [cA] at hk
   exact hk
  ·cases h
 ·rename_i ho
  unfold QX at h
  rw [ho] at h
  cases h
 ·rename_i nc nd
  unfold QX at h
  split at h
  ·rename_i ho
   exact absurd ho (nc _ _ _)
  ·cases h
  ·rename_i y ho
   split at h
   ·rename_i b s1 s2 hs
    have hn:=Fh hs
    have e:ao E f s o=some (true,bif b then s1 else s2):=by simp only [ao,ho,hn]
    rw [e]
    refine di.mk rfl ?_
    rw [cA,cA] at h
    cases b <;> exact h
   ·cases h
  ·rename_i t m k ok ho
   split at h
   ·rename_i c v b hs
    obtain ⟨h1,h2⟩:=bc h
    subst h1
    rw [cA] at h2
    have hn:=rb hs
    have e:ao E f s o=some (true,s.put o.dst (.v (if ok then .bF [v,.bool b] else v))):=by simp only [ao,ho,hn]
    rw [e]
    exact di.mk rfl h2
   ·split at h
    ·rename_i c s' hs
     obtain ⟨h1,h2⟩:=bc h
     rw [cA] at h2
     rw [hs]
     exact di.mk h1 h2
    ·cases h
  ·rename_i t m k z ho
   split at h
   ·rename_i c s' hd hs
    obtain ⟨h1,h2⟩:=bc h
    subst h1
    rw [cA] at h2
    have hn:=rk hs
    have e:ao E f s o=some (true,s'):=by simp only [ao,ho,hd,hn]
    rw [e]
    exact di.mk rfl h2
   ·cases h
  ·rename_i t m k z ho
   split at h
   ·rename_i c s' hd hs
    obtain ⟨h1,h2⟩:=bc h
    subst h1
    rw [cA] at h2
    have hn:=rk hs
    have e:ao E f s o=some (true,s'):=by simp only [ao,ho,hd,hn]
    rw [e]
    exact di.mk rfl h2
   ·cases h
  ·rename_i args tys ho
   split at h
   ·rename_i c s' hf
    obtain ⟨h1,h2⟩:=bc h
    rw [cA] at h2
    have e:ao E f s o=some (c,s'):=by simp only [ao,ho,hf]
    rw [e]
    exact di.mk h1 h2
   ·rename_i hf
    split at h
    ·rename_i l hl
     split at h
     ·rename_i b s1 c s2 hs
      have DE:b=false→c=true:=fun e=>by subst e; exact (bc (show (bif c then oE fz s2 K else none)=some x from h)).1
      have hn:=Bd hs DE
      have e:ao E f s o=some (true,bif b then s1 else s2):=by simp only [ao,ho,hf,hl,hn]
      rw [e]
      refine di.mk rfl ?_
      cases b with
      | true=>
       show K s1=some x
       rw [← cA fz s1 K]
       exact h
      | false=>
       obtain ⟨h1,h2⟩:=bc (show (bif c then oE fz s2 K else none)=some x from h)
       rw [cA] at h2
       exact h2
     ·split at h
      ·rename_i c s' hs
       obtain ⟨h1,h2⟩:=bc h
       rw [cA] at h2
       rw [hs]
       exact di.mk h1 h2
      ·cases h
    ·cases h
  ·rename_i args tys ho
   split at h
   ·rename_i l hl
    split at h
    ·rename_i c s' hs
     obtain ⟨h1,h2⟩:=bc h
     subst h1
     rw [cA] at h2
     have hn:=Fi hs
     have hf:gu E f s o=none:=by
      cases hf:gu E f s o with
      | none=>rfl
      | some r=>
       obtain ⟨_,_,h2⟩:=my hf
       rw [ho] at h2
       cases h2
     have e:ao E f s o=some (true,s'):=by simp only [ao,ho,hf,hl,hn]
     rw [e]
     exact di.mk rfl h2
    ·split at h
     ·rename_i c s' hs
      obtain ⟨h1,h2⟩:=bc h
      rw [cA] at h2
      rw [hs]
      exact di.mk h1 h2
     ·cases h
   ·cases h
  ·split at h
   ·rename_i n len g hi
    obtain ⟨c,s',hs,h1,h2⟩:=oZ hi _ _ h
    rw [hs]
    exact di.mk h1 h2
   ·split at h
    ·rename_i c s' hs
     obtain ⟨h1,h2⟩:=bc h
     rw [cA] at h2
     rw [hs]
     exact di.mk h1 h2
    ·cases h
theorem jO (hc:mH E call) (hr:tV E kX) {ops:List Oper} {o:Oper} {K:St→Option X} (h:nW E fz call kX f ops o K s=some x):b9 E f ops o (fun s=>K s=some x) s:=by
 unfold nW at h
 unfold b9
 split at h
 ·rename_i hg
  rw [hg]
  exact sP hc hr h
 ·rename_i j want hg
  rw [hg]
  simp only
  split at h
  ·cases h
  ·rename_i d hd
   rw [hd]
   simp only
   split at h
   ·rename_i b hb
    rw [hb]
    simp only
    cases want with
    | true=>
     simp only at h
     rw [cA,cA] at h
     refine ⟨fun e=>?_,fun e=>?_⟩
     ·subst e
      exact sP hc hr h
     ·have e:b=false:=by simpa using e
      subst e
      exact h
    | false=>
     simp only at h
     rw [cA,cA] at h
     refine ⟨fun e=>?_,fun e=>?_⟩
     ·subst e
      exact sP hc hr h
     ·have e:b=true:=by simpa using e
      subst e
      exact h
   ·rename_i hb
    rw [hb]
    rw [cA] at h
    exact h
   ·cases h
theorem yQ (hc:mH E call) (hr:tV E kX) {ops:List Oper} {o:Oper} {K:St→Option X} (h:Bi E fz call kX f ops o K s=some x):fD E f ops o (fun s=>K s=some x) s:=by
 unfold Bi at h
 unfold fD
 split at h
 ·rename_i s' h1 h2
  rw [h1,h2]
  rw [cA] at h
  exact h
 ·rename_i hn
  split
  ·rename_i s' h1 h2
   exact absurd h2 (hn s' h1)
  ·exact jO hc hr h
theorem pd (hc:mH E call) (hr:tV E kX) {ops:List Oper} {o:Oper} {K:St→Option X} (h:uY E fz call kX f ops o K s=some x):eV E f ops o (fun s=>K s=some x) s:=by
 unfold uY at h
 unfold eV
 split at h
 ·rename_i c s' h1 h2
  rw [h1,h2]
  obtain ⟨q1,q2⟩:=bc h
  rw [cA] at q2
  exact di.mk q1 q2
 ·rename_i c s0 left g h1 h2 h3
  rw [h1,h2,h3]
  obtain ⟨q1,q2⟩:=bc h
  refine di.mk q1 ?_
  cases left with
  | nil=>
   simp only [List.isEmpty_nil,cond_true,cA] at q2
   exact ⟨fun _=>q2,fun i hi=>by simp at hi⟩
  | cons i0 l=>
   simp only [List.isEmpty_cons,cond_false] at q2
   refine ⟨fun e=>(by cases e),fun i hi=>?_⟩
   obtain ⟨r1,r2⟩:=bc (Ib q2 i hi)
   rw [cA] at r2
   exact di.mk r1 r2
 ·rename_i D6 WT
  split
  ·rename_i c s' h1 h2
   first
    | exact absurd h2 (D6 c s' h1)
    | exact absurd h2 (WT c s' h1)
  ·rename_i c s0 left g h1 h2 h3
   first
    | exact absurd h3 (WT c s0 left g h1 h2)
    | exact absurd h3 (D6 c s0 left g h1 h2)
  ·exact yQ hc hr h
theorem yR (hc:mH E call) (hr:tV E kX) {ops:List Oper} {o:Oper} {K:St→Option X} (h:Bj E fz call kX f ops o K s=some x):eX E f ops o (fun s=>K s=some x) s:=by
 unfold Bj at h
 unfold eX
 split at h
 ·rename_i c s' hz
  rw [hz]
  obtain ⟨h1,h2⟩:=bc h
  exact ⟨h1,pd hc hr h2⟩
 ·rename_i hz
  rw [hz]
  exact pd hc hr h
theorem xw (hc:mH E call) (hr:tV E kX) {ops:List Oper}:∀ {l:List Oper} {K:St→Option X} {s:St},M6 E fz call kX f ops l K s=some x→nG E f ops l (fun s=>K s=some x) s
 | [],_,_,h=>h
 | o :: l,K,s,h=>by
  unfold M6 at h
  unfold nG
  refine lC (yR hc hr h) fun s' h'=>?_
  unfold zA
  split at h'
  ·rename_i c s2 hp
   rw [hp]
   cases c with
   | true=>exact ⟨rfl,xw hc hr h'⟩
   | false=>cases h'
  ·cases h'
theorem jg (hc:mH E call) (hr:tV E kX) (hm:tU eJ) {ops:List Oper}:∀ {T:DT} {K:St→Option X} {s:St} {x:X},oT E fz call kX eJ f ops T K s=some x→se E f ops T (fun s=>K s=some x) s
 | .done,_,_,_,h=>h
 | .stop,_,_,_,_=>trivial
 | .take j C T,K,s,x,h=>by
  unfold oT at h
  unfold se
  split at h
  ·rename_i hk
   rw [hk]
   exact ca (jO hc hr h) fun s' h'=>jg hc hr hm h'
  ·cases h
 | .al j W T,K,s,x,h=>by
  unfold oT at h
  unfold se
  split at h
  ·rename_i hk
   obtain ⟨h1,h2⟩:=bc h
   rw [hk]
   exact ⟨h1,ca (jO hc hr h2) fun s' h'=>jg hc hr hm h'⟩
  ·cases h
 | .br i re C T more,K,s,x,h=>by
  have first:∀ {x:X},(match nth ops i with
   | some oi=>nW E fz call kX f ops oi (fun s'=>bif oF E f ops re s' then oT E fz call kX eJ f ops T K s' else none) s
   | none=>none)=some x→(match nth ops i with
   | some oi=>b9 E f ops oi (fun s'=>zF E f ops re s'∧se E f ops T (fun s=>K s=some x) s') s
   | none=>False):=by
   intro x h
   split at h
   ·rename_i hk
    refine ca (jO hc hr h) fun s' h'=>?_
    obtain ⟨h1,h2⟩:=bc h'
    exact ⟨pc h1,jg hc hr hm h2⟩
   ·cases h
  unfold se
  cases more with
  | stop=>exact ⟨first h,trivial⟩
  | done=>obtain ⟨h1,h2⟩:=hm _ _ _ h; exact ⟨first h1,jg (T:=.done) hc hr hm h2⟩
  | take a b c=>obtain ⟨h1,h2⟩:=hm _ _ _ h; exact ⟨first h1,jg hc hr hm h2⟩
  | br a b c d e=>obtain ⟨h1,h2⟩:=hm _ _ _ h; exact ⟨first h1,jg hc hr hm h2⟩
  | al a b c=>obtain ⟨h1,h2⟩:=hm _ _ _ h; exact ⟨first h1,jg hc hr hm h2⟩
end sound
end Go.Am
namespace Go.Am
open Go
section
variable {C:gn} {ih:TP}
def sQ (C:gn) (ih:TP):Prop:=∀ (f:FuncId) (p:Nat) (c:Code) (X:Type) (eJ:Option X→Option X→Option X),tU eJ→∀ (K:Exit→St→Option X) (s:St) (x:X),
 bA (C.D.dt f) c=true→ih f p c X eJ K s=some x→jz C.D.toEnv c (fun e s'=>K e s'=some x) s
theorem mI {X:Type}:tU (yt (X:=X)):=fun a b x h=>by
 unfold yt at h
 by_cases e:a=b
 ·rw [if_pos e] at h
  exact ⟨h,e ▸ h⟩
 ·rw [if_neg e] at h
  cases h
theorem n5 (hs:sQ C ih) {X:Type} {eJ:Option X→Option X→Option X} (hm:tU eJ):mH C.D.toEnv (CZ C ih eJ):=fun g args G K x h=>by
 unfold CZ at h
 obtain ⟨cS,h⟩:=bc h
 split at h
 ·rename_i fn hfn
  split at h
  ·rename_i b hb
   obtain ⟨hn,h⟩:=bc h
   have fin:∀ {K':AV→List GO→Option X},ih g 1 b X eJ (Kk C.D.toEnv fn K') (St.init fn.ntmps args G)=some x→cJ C.D.toEnv g args G (fun r G'=>K' r G'=some x):=by
    intro K' h
    refine cJ.intro hfn hb (by simpa using hn) ((hs g 1 b X eJ hm _ _ x (C.D.Pf g fn b cS hfn hb) h).mono fun e s' hq=>?_)
    have hq:=hq.1
    unfold Kk at hq
    unfold Pc
    cases e <;> first | (cases hq; done) | skip
    all_goals (simp only at hq ⊢)
    all_goals (split at hq <;> first | (cases hq; done) | skip)
    all_goals (rename_i hl; rw [hl]; simp only)
    all_goals (split at hq <;> first | (cases hq; done) | skip)
    all_goals (rename_i HW; rw [HW]; exact hq)
   cases WU:C.D.vf g 131072 with
   | true=>rw [WU] at h; exact cJ.frz (fin h)
   | false=>rw [WU] at h; exact fin h
  ·cases h
 ·cases h
theorem C1 (Fw:∀ g e,C.DH g=some e→av C.D.toEnv g e) (hs:sQ C ih) {X:Type} {eJ:Option X→Option X→Option X} (hm:tU eJ):mH C.D.toEnv (zR C ih eJ):=fun g args G K x h=>by
 unfold zR at h
 split at h
 ·rename_i e he
  obtain ⟨a,ha,h⟩:=bind_some h
  obtain ⟨y,hy,h⟩:=bind_some h
  refine cJ.gq (e.ps.px ha).1 (((Fw g e he a y hy) G).mono fun r G' hr=>?_)
  obtain ⟨rfl,rfl⟩:=hr
  exact h
 ·split at h
  ·rename_i e he
   split at h
   ·rename_i c r G' hf
    obtain ⟨hc,h⟩:=bc h
    subst hc
    refine (e.ok args G r G' hf).mono fun r' Po hh=>?_
    obtain ⟨rfl,rfl⟩:=hh
    exact h
   ·cases h
  ·split at h
   ·rename_i e he
    obtain ⟨a,ha,h⟩:=bind_some h
    obtain ⟨y,hy,h⟩:=bind_some h
    refine cJ.gq (e.ps.px ha).1 ((e.ok a y hy G).mono fun r G' hr=>?_)
    obtain ⟨z,rfl,hr⟩:=hr
    exact (CY e.outs z hr).trans h
   ·exact n5 hs hm g args G K x h
theorem C2 {n:Nat}:∀ {l:List Tmp},M7 n l=true→∀ t∈l,t < n
 | [],_,t,ht=>by simp at ht
 | a :: l,h,t,ht=>by
  simp only [M7,Bool.and_eq_true] at h
  rcases List.mem_cons.1 ht with rfl | ht
  ·exact gH h.1
  ·exact C2 h.2 t ht
theorem Fx (hs:sQ C ih) {X:Type} {eJ:Option X→Option X→Option X} (hm:tU eJ):tV C.D.toEnv (M8 C ih eJ):=fun id args G K x h=>by
 unfold M8 at h
 split at h
 ·rename_i p fp sl n ps pI bd d hG
  obtain ⟨hc,h⟩:=bc h
  simp only [Bool.and_eq_true] at hc
  obtain ⟨⟨⟨h1,h2⟩,h3⟩,h4⟩:=hc
  refine kf.intro hG (Nat.eq_of_beq_eq_true h1) (C2 h2) ((hs _ _ pI X eJ hm _ _ x h3 h).mono fun e s1 hq=>?_)
  have hq:=hq.1
  unfold A8
  cases e with
  | normal=>
   simp only at hq ⊢
   split at hq
   ·rename_i p' fn TF n' UY M0 TJ d' YD
    rw [YD]
    simp only
    refine (hs _ _ bd X eJ hm _ _ x h4 hq).mono fun e2 s2 me=>?_
    have me:Fm id K e2 s2=some x:=me.1
    unfold Fm at me
    unfold Ff
    split at me
    ·rename_i UO
     rw [UO]
     cases e2 <;> first | (cases me; done) | exact me
    ·cases me
   ·cases hq
  | _=>cases hq
 ·cases h
theorem jz.of {E:Env} {c:Code} {Q Q':Exit→St→Prop} {s:St} (h:jz E c Q s) (hq:∀ e s',Q e s'→aB s s'→Q' e s'):eH E c Q' s:=
 eH.mono h fun e s' hh=>hq e s' hh.1 hh.2
theorem oG {s s':St} {e:Exit}:∀ {outs:List (XK × bI)} {o:JT outs},ik s outs e s'=some o→∃ (t:bI) (v:t.ps.T),t.dec s s'=some v∧∀ (α:Type) (K:Exit→St→α),IV s outs o K=K e (t.st s v)
 | [],o,h=>by cases h
 | [x],o,h=>by
  obtain ⟨h1,h2⟩:=bc (show (bif x.1.is e then x.2.dec s s' else none)=some o from h)
  exact ⟨x.2,o,h2,fun _ K=>by rw [XK.Gv h1]; rfl⟩
 | x :: y :: l,o,h=>by
  have h:(bif x.1.is e then (x.2.dec s s').bind fun v=>some (.inl v) else (ik s (y :: l) e s').bind fun o=>some (.inr o))=some o:=h
  cases hx:x.1.is e with
  | true=>
   rw [hx] at h
   obtain ⟨v,h1,h2⟩:=bind_some h
   cases h2
   exact ⟨x.2,v,h1,fun _ K=>by rw [XK.Gv hx]; rfl⟩
  | false=>
   rw [hx] at h
   obtain ⟨v,h1,h2⟩:=bind_some h
   cases h2
   obtain ⟨t,u,k1,k2⟩:=oG h1
   exact ⟨t,u,k1,fun α K=>k2 α K⟩
theorem bI.kq (t:bI) (s:St) (v:t.ps.T):aB s (t.st s v):=by
 have h1:∀ (W:List Tmp) (b:a8),∃ pre,wS W b=pre++b:=fun W b=>by
  induction W with
  | nil=>exact ⟨[],rfl⟩
  | cons t W ih=>obtain ⟨p,hp⟩:=ih; exact ⟨.put t .none :: p,by simp [wS,hp]⟩
 have h2:∀ (ts:List Tmp) (l:List AV) (b:a8),∃ pre,nQ ts l b=pre++b:=fun ts=>by
  induction ts with
  | nil=>intro l b; exact ⟨[],by cases l <;> rfl⟩
  | cons t ts ih=>
   intro l b
   cases l with
   | nil=>exact ⟨[],rfl⟩
   | cons a l=>obtain ⟨p,hp⟩:=ih l b; exact ⟨.put t (.v a) :: p,by simp [nQ,hp]⟩
 have h3:∀ (bx:List (Nat × Nat)) (l:List AV) (b:cp),∃ pre,tO bx l b=pre++b:=fun bx=>by
  induction bx with
  | nil=>intro l b; exact ⟨[],rfl⟩
  | cons x bx ih=>
   obtain ⟨k,n⟩:=x
   intro l b
   obtain ⟨p,hp⟩:=ih (l.drop n) b
   exact ⟨(k,l.take n) :: p,by simp [tO,hp]⟩
 have h4:∀ (l:List (Tmp × Nat × Nat)) (b:a8),∃ pre,nR l b=pre++b:=fun l b=>by
  induction l with
  | nil=>exact ⟨[],rfl⟩
  | cons x l ih=>obtain ⟨t,k,o⟩:=x; obtain ⟨p,hp⟩:=ih; exact ⟨.put t (.lp k o) :: p,by simp [nR,hp]⟩
 obtain ⟨p1,e1⟩:=h1 t.W s.ae
 obtain ⟨p2,e2⟩:=h2 t.sl (t.oN v) (wS t.W s.ae)
 obtain ⟨p3,e3⟩:=h3 t.bx ((t.oN v).drop t.sl.length) s.boxes
 obtain ⟨p4,e4⟩:=h4 t.TG (p2++(p1++s.ae))
 exact ⟨⟨p4++(p2++p1),by rw [show (t.st s v).ae=nR t.TG (nQ t.sl (t.oN v) (wS t.W s.ae)) from rfl,e2,e1,e4,List.append_assoc,List.append_assoc]⟩,⟨p3,e3⟩,rfl⟩
theorem eH.Vb {E:Env} {c:Code} {s s1:St} {gh:List (Loc × Nat × TypeId)} {head:bI} {outs:List (XK × bI)} {rd:head.ps.T→Option (head.ps.T ⊕ JT outs)} {N:Nat} {v0:head.ps.T} {o:JT outs} {Q:Exit→St→Prop}
  (hg:Am.fC gh s=some s1) (h0:head.dec s1 s1=some v0) (hr:∀ v r,rd v=some r→jz E c (fun e s'=>tT s1 head outs e s'=some r) (head.st s1 v))
  (hl:aZ rd N v0=some o) (hQ:∀ (t:bI) (v:t.ps.T) (e:Exit),(∀ (α:Type) (K:Exit→St→α),IV s1 outs o K=K e (t.st s1 v))→Q e (t.st s1 v)∧aB s (t.st s1 v)) :
  jz E (.loop c) Q s:=fun R0 w β a F Ii sa=>by
 obtain ⟨R,k1,k2,k3,_⟩:=iI Ii hg
 have hf:bL R s1.ro F:=by rw [k3]; exact sa.mono k2.ext
 obtain ⟨i1,i2⟩:=bI.BP (aB.refl s1) k1 k1 (Step.refl R w β s1.boxes) h0
 refine iJ (fun m a' w'=>∃ v R' β',aZ rd m v=some o∧aQ E R' w' β' (head.st s1 v) a'∧Step R w β s1.boxes R' w' β' (head.st s1 v).boxes) ?_ ⟨v0,_,β,hl,i1,i2⟩
 rintro m a' w' ⟨v,R',β',hm,iE,gy⟩
 cases m with
 | zero=>cases hm
 | succ m=>
  obtain ⟨r,h1,h2⟩:=bind_some (show ((rd v).bind fun o=>Sum.elim (fun v'=>aZ rd m v') (fun x=>some x) o)=some o from hm)
  refine wpIn_mono (hr v r h1 R' w' β' a' F iE (hf.mono gy.ext)) ?_
  rintro e a2 w2 ⟨s2,R2,β2,⟨hK,hx⟩,vN,yS,A9⟩
  have BR:aB s1 s2:=(head.kq s1 v).trans hx
  have st2:=gy.trans yS
  have out:∀ {u:JT outs},ik s1 outs e s2=some u→r=.inr u→Qu E R0 w β s (fun e s'=>Q e s'∧aB s s') e a2 w2:=fun {u} hu hru=>by
   subst hru
   cases h2
   obtain ⟨t,v',q1,q2⟩:=oG hu
   obtain ⟨j1,j2⟩:=bI.BP BR k1 vN st2 q1
   exact ⟨t.st s1 v',_,β2,hQ t v' e q2,j1,k2.trans j2,k3⟩
  cases e with
  | normal=>
   obtain ⟨v',q1,q2⟩:=bind_some (show ((head.dec s1 s2).bind fun v=>some (.inl v))=some r from hK)
   cases q2
   obtain ⟨j1,j2⟩:=bI.BP BR k1 vN st2 q1
   exact ⟨m,Nat.lt_succ_self m,v',_,β2,h2,j1,j2⟩
  | exit i=>obtain ⟨u,q1,q2⟩:=bind_some (show ((ik s1 outs (.exit i) s2).bind fun o=>some (.inr o))=some r from hK); exact out q1 (Option.some.inj q2).symm
  | ret=>obtain ⟨u,q1,q2⟩:=bind_some (show ((ik s1 outs .ret s2).bind fun o=>some (.inr o))=some r from hK); exact out q1 (Option.some.inj q2).symm
  | goto i=>obtain ⟨u,q1,q2⟩:=bind_some (show ((ik s1 outs (.goto i) s2).bind fun o=>some (.inr o))=some r from hK); exact out q1 (Option.some.inj q2).symm
  | panic i=>obtain ⟨u,q1,q2⟩:=bind_some (show ((ik s1 outs (.panic i) s2).bind fun o=>some (.inr o))=some r from hK); exact out q1 (Option.some.inj q2).symm
  | outgrown=>obtain ⟨u,q1,q2⟩:=bind_some (show ((ik s1 outs .outgrown s2).bind fun o=>some (.inr o))=some r from hK); exact out q1 (Option.some.inj q2).symm
theorem eH.Q0 {E:Env} {c:Code} {s s1:St} {gh:List (Loc × Nat × TypeId)} {head:bI} {outs:List (XK × bI)} {rd:(head.ps.T→Option (JT outs))→head.ps.T→Option (JT outs)} {N:Nat} {v0:head.ps.T} {o:JT outs} {Q:Exit→St→Prop}
  (hg:Am.fC gh s=some s1) (h0:head.dec s1 s1=some v0) (hr:∀ k v u,rd k v=some u→jz E c (fun e s'=>Km s1 head outs k e s'=some u) (head.st s1 v))
  (hl:iB rd N v0=some o) (hQ:∀ (t:bI) (v:t.ps.T) (e:Exit),(∀ (α:Type) (K:Exit→St→α),IV s1 outs o K=K e (t.st s1 v))→Q e (t.st s1 v)∧aB s (t.st s1 v)) :
  jz E (.loop c) Q s:=fun R0 w β a F Ii sa=>by
 obtain ⟨R,k1,k2,k3,_⟩:=iI Ii hg
 have hf:bL R s1.ro F:=by rw [k3]; exact sa.mono k2.ext
 obtain ⟨i1,i2⟩:=bI.BP (aB.refl s1) k1 k1 (Step.refl R w β s1.boxes) h0
 refine iJ (fun m a' w'=>∃ v R' β',iB rd m v=some o∧aQ E R' w' β' (head.st s1 v) a'∧Step R w β s1.boxes R' w' β' (head.st s1 v).boxes) ?_ ⟨v0,_,β,hl,i1,i2⟩
 rintro m a' w' ⟨v,R',β',hm,iE,gy⟩
 cases m with
 | zero=>cases hm
 | succ m=>
  refine wpIn_mono (hr (iB rd m) v o hm R' w' β' a' F iE (hf.mono gy.ext)) ?_
  rintro e a2 w2 ⟨s2,R2,β2,⟨hK,hx⟩,vN,yS,A9⟩
  have BR:aB s1 s2:=(head.kq s1 v).trans hx
  have st2:=gy.trans yS
  have out:ik s1 outs e s2=some o→Qu E R0 w β s (fun e s'=>Q e s'∧aB s s') e a2 w2:=fun hu=>by
   obtain ⟨t,v',q1,q2⟩:=oG hu
   obtain ⟨j1,j2⟩:=bI.BP BR k1 vN st2 q1
   exact ⟨t.st s1 v',_,β2,hQ t v' e q2,j1,k2.trans j2,k3⟩
  cases e with
  | normal=>
   obtain ⟨v',q1,q2⟩:=bind_some (show (head.dec s1 s2).bind (iB rd m)=some o from hK)
   obtain ⟨j1,j2⟩:=bI.BP BR k1 vN st2 q1
   exact ⟨m,Nat.lt_succ_self m,v',_,β2,q2,j1,j2⟩
  | exit i=>exact out hK
  | ret=>exact out hK
  | goto i=>exact out hK
  | panic i=>exact out hK
  | outgrown=>exact out hK
theorem eH.Q1 {E:Env} {X:Type} {c:Code} {s s1:St} {gh:List (Loc × Nat × TypeId)} {head:bI} {K:Exit→St→Option X} {rd:(head.ps.T→Option X)→head.ps.T→Option X} {N:Nat} {v0:head.ps.T} {o:X}
  (hg:Am.fC gh s=some s1) (h0:head.dec s1 s1=some v0) (hr:∀ k v u,rd k v=some u→jz E c (fun e s'=>Ko s1 head K k e s'=some u) (head.st s1 v))
  (hl:iB rd N v0=some o) :
  jz E (.loop c) (fun e s'=>K e s'=some o) s:=fun R0 w β a F Ii sa=>by
 obtain ⟨R,k1,k2,k3,_⟩:=iI Ii hg
 have hf:bL R s1.ro F:=by rw [k3]; exact sa.mono k2.ext
 obtain ⟨i1,i2⟩:=bI.BP (aB.refl s1) k1 k1 (Step.refl R w β s1.boxes) h0
 refine iJ (fun m a' w'=>∃ v R' β',iB rd m v=some o∧aQ E R' w' β' (head.st s1 v) a'∧Step R w β s1.boxes R' w' β' (head.st s1 v).boxes) ?_ ⟨v0,_,β,hl,i1,i2⟩
 rintro m a' w' ⟨v,R',β',hm,iE,gy⟩
 cases m with
 | zero=>cases hm
 | succ m=>
  refine wpIn_mono (hr (iB rd m) v o hm R' w' β' a' F iE (hf.mono gy.ext)) ?_
  rintro e a2 w2 ⟨s2,R2,β2,⟨hK,hx⟩,vN,yS,A9⟩
  have BR:aB s1 s2:=(head.kq s1 v).trans hx
  have st2:=gy.trans yS
  have out:K e s2=some o→Qu E R0 w β s (fun e s'=>K e s'=some o∧aB s s') e a2 w2:=fun hu=>
   ⟨s2,R2,β2,⟨hu,(ko hg).trans BR⟩,vN,k2.trans st2,A9.trans k3⟩
  cases e with
  | normal=>
   obtain ⟨v',q1,q2⟩:=bind_some (show (head.dec s1 s2).bind (iB rd m)=some o from hK)
   obtain ⟨j1,j2⟩:=bI.BP BR k1 vN st2 q1
   exact ⟨m,Nat.lt_succ_self m,v',_,β2,q2,j1,j2⟩
  | exit i=>exact out hK
  | ret=>exact out hK
  | goto i=>exact out hK
  | panic i=>exact out hK
  | outgrown=>exact out hK
theorem tW {s s':St} {t:Tmp} {sz:Nat} {e:TypeId} {c:Bool} (h:rq s t sz e=some (c,s')):s'.G.length=s.G.length∧aB s s':=by
 unfold rq at h
 repeat' (split at h)
 all_goals (first | (cases h; done) | skip)
 injection h with h
 injection h with _ h
 subst h
 exact ⟨dz _ _ _,⟨⟨[_],rfl⟩,⟨[],rfl⟩,rfl⟩⟩
theorem eH.Kh {E:Env} {c:Code} {s s1:St} {tq:Tmp} {sz:Nat} {ty:TypeId} {head:bI} {outs:List (XK × bI)} {rd:head.ps.T→Option (head.ps.T ⊕ JT outs)} {N:Nat} {v0:head.ps.T} {o:JT outs} {Q:Exit→St→Prop}
  (hg:rq s tq sz ty=some (true,s1)) (h0:head.dec s1 s1=some v0) (hr:∀ v r,rd v=some r→∃ s2,tS (head.st s1 v) tq sz ty=some s2∧jz E c (fun e s'=>Kq s1 head outs tq sz ty e s'=some r) s2)
  (hl:aZ rd N v0=some o) (hQ:∀ (t:bI) (v:t.ps.T) (e:Exit),(∀ (α:Type) (K:Exit→St→α),IV s1 outs o K=K e (t.st s1 v))→Q e (t.st s1 v)∧aB s (t.st s1 v)) :
  jz E (.loop c) Q s:=fun R0 w β a F Ii sa=>by
 obtain ⟨R1,cv,ro,es,k1,k2,k3,k4,k5,k6,k7,k8,k9⟩:=zO Ii hg
 have hnG:R0.obj.length=s1.G.length:=by rw [Ii.g.len,(tW hg).1]
 cases N with
 | zero=>cases hl
 | succ N0=>
 obtain ⟨r0,YO,_⟩:=bind_some (show ((rd v0).bind fun o=>Sum.elim (fun v'=>aZ rd N0 v') (fun x=>some x) o)=some o from hl)
 obtain ⟨s20,Vc,_⟩:=hr v0 r0 YO
 obtain ⟨R4,i1,i2,i3,i4,i5⟩:=zP k1 hnG (aB.refl s1) (Ext.refl R1 w) (Step.refl R0 w β s.boxes) k1 k2 k7 k8 k9 h0 Vc
 refine iJ (fun m a' w'=>∃ v R' β' s2,aZ rd m v=some o∧tS (head.st s1 v) tq sz ty=some s2∧aQ E R' w' β' s2 a'∧Step R0 w β s.boxes R' w' β' s2.boxes∧Ext R1 w R' w'∧s2.ro=s1.ro∧aB s1 s2) ?_ ⟨v0,R4,β,s20,hl,Vc,i1,i2,i3,i4,(head.kq s1 v0).trans i5⟩
 rintro m a' w' ⟨v,R',β',s2,hm,Ww,iE,gy,hE,aU,hx0⟩
 cases m with
 | zero=>cases hm
 | succ m=>
  obtain ⟨r,h1,h2⟩:=bind_some (show ((rd v).bind fun o=>Sum.elim (fun v'=>aZ rd m v') (fun x=>some x) o)=some o from hm)
  obtain ⟨s2',Vd,hw⟩:=hr v r h1
  rw [Ww] at Vd
  cases Vd
  refine wpIn_mono (hw R' w' β' a' F iE (by rw [aU,k3]; exact sa.mono gy.ext)) ?_
  rintro e a2 w2 ⟨s3,R2,β2,⟨hK,hx⟩,vN,yS,A9⟩
  have BR:aB s1 s3:=hx0.trans hx
  have st2:=gy.trans yS
  have hE2:=hE.trans yS.ext
  have out:∀ {u:JT outs},ik s1 outs e s3=some u→r=.inr u→Qu E R0 w β s (fun e s'=>Q e s'∧aB s s') e a2 w2:=fun {u} hu hru=>by
   subst hru
   cases h2
   obtain ⟨t,v',q1,q2⟩:=oG hu
   obtain ⟨j1,j2,j3⟩:=bI.QP BR k1 vN hE2 q1
   refine ⟨t.st s1 v',_,β2,hQ t v' e q2,j1,⟨⟨st2.ext.I,st2.ext.cell,fun id r aX=>?_,st2.ext.lp⟩,st2.os,st2.tape,st2.output,st2.size,st2.bY,fun b hb EL=>?_,fun b o hi hb nu=>st2.im b o hi hb nu⟩,k3⟩
   ·obtain ⟨r',g1,g2⟩:=st2.ext.obj id r aX
    have:=aT aX
    exact ⟨r',ij.2 ⟨by omega,g1⟩,g2⟩
   ·rcases EL with EL | ⟨k,cs,hk,rfl⟩
    ·exact st2.own b hb (.inl (nS EL))
    ·obtain ⟨dJ,gm⟩:=j3 k cs hk
     exact st2.own _ hb (.inr ⟨k,dJ,gm,rfl⟩)
  cases e with
  | normal=>
   have hK:(match rq s3 tq sz ty with
    | some (c,s2)=>bif c then (head.dec s1 s2).bind fun v=>some (.inl v) else none
    | none=>none:Option (head.ps.T ⊕ JT outs))=some r:=hK
   cases hu:rq s3 tq sz ty with
   | none=>rw [hu] at hK; cases hK
   | some x=>
    obtain ⟨cc,s4⟩:=x
    rw [hu] at hK
    cases cc with
    | false=>cases hK
    | true=>
     obtain ⟨v',q1,q2⟩:=bind_some (show ((head.dec s1 s4).bind fun v=>some (.inl v))=some r from hK)
     cases q2
     obtain ⟨R3,cv3,ro3,es3,m1,m2,m3,m4,m5,m6,m7,m8,m9⟩:=zO vN hu
     have hs4:∃ s5,tS (head.st s1 v') tq sz ty=some s5:=by
      cases m with
      | zero=>cases h2
      | succ m0=>
       obtain ⟨r9,hr9,_⟩:=bind_some (show ((rd v').bind fun o=>Sum.elim (fun v'=>aZ rd m0 v') (fun x=>some x) o)=some o from h2)
       obtain ⟨s9,hs9,_⟩:=hr v' r9 hr9
       exact ⟨s9,hs9⟩
     obtain ⟨s5,hs5⟩:=hs4
     obtain ⟨R5,j1,j2,j3,j4,j5⟩:=zP k1 hnG (BR.trans m4) (hE2.trans m2.ext) st2 m1 m2 m7 m8 m9 q1 hs5
     exact ⟨m,Nat.lt_succ_self m,v',R5,β2,s5,h2,hs5,j1,j2,j3,j4,(head.kq s1 v').trans j5⟩
  | exit i=>obtain ⟨u,q1,q2⟩:=bind_some (show ((ik s1 outs (.exit i) s3).bind fun o=>some (.inr o))=some r from hK); exact out q1 (Option.some.inj q2).symm
  | ret=>obtain ⟨u,q1,q2⟩:=bind_some (show ((ik s1 outs .ret s3).bind fun o=>some (.inr o))=some r from hK); exact out q1 (Option.some.inj q2).symm
  | goto i=>obtain ⟨u,q1,q2⟩:=bind_some (show ((ik s1 outs (.goto i) s3).bind fun o=>some (.inr o))=some r from hK); exact out q1 (Option.some.inj q2).symm
  | panic i=>obtain ⟨u,q1,q2⟩:=bind_some (show ((ik s1 outs (.panic i) s3).bind fun o=>some (.inr o))=some r from hK); exact out q1 (Option.some.inj q2).symm
  | outgrown=>obtain ⟨u,q1,q2⟩:=bind_some (show ((ik s1 outs .outgrown s3).bind fun o=>some (.inr o))=some r from hK); exact out q1 (Option.some.inj q2).symm
end
def pf (E:Env):List Bool→Code→(Exit→St→Prop)→St→Prop
 | [],_,Q,s=>Q .normal s
 | true :: k,.seq x y,Q,s=>jz E x (tE (pf E k y Q) Q) s
 | false :: k,.seq x _,Q,s=>pf E k x Q s
 | _ :: _,_,_,_=>False
def kr (E:Env):List Bool→Code→(Exit→St→Prop)→St→Prop
 | [],c,Q,s=>jz E c Q s
 | true :: k,.seq _ y,Q,s=>kr E k y Q s
 | false :: k,.seq x y,Q,s=>kr E k x (tE (jz E y Q) Q) s
 | _ :: _,_,_,_=>False
def GC (F:Fence) (P:Program):List Bool→Code→(Exit→Act→World→Prop)→Act→World→Prop
 | [],c,Q,a,w=>c.wpIn F 0 P Q a w
 | true :: k,.seq _ y,Q,a,w=>GC F P k y Q a w
 | false :: k,.seq x y,Q,a,w=>GC F P k x (Exit.then (fun a' w'=>y.wpIn F 0 P Q a' w') Q) a w
 | _ :: _,_,_,_,_=>False
section YN
variable {E:Env} {s1:St} {R:af} {w:World} {β:Nat→Nat} {F:Fence}
def At (E:Env) (s1:St) (R:af) (w:World) (β:Nat→Nat) (s:St) (a:Act) (w':World):Prop:=
 ∃ R' β',aB s1 s∧aQ E R' w' β' s a∧Step R w β s1.boxes R' w' β' s.boxes∧s.ro=s1.ro
theorem jz.at {c:Code} {Q:Exit→St→Prop} {s:St} {a:Act} {w':World} {Φ:Exit→Act→World→Prop} (hf:bL R s1.ro F) (h:jz E c Q s) (mR:At E s1 R w β s a w') (hQ:∀ e s' a' w',Q e s'→At E s1 R w β s' a' w'→Φ e a' w'):c.wpIn F 0 E.P Φ a w':=by
 obtain ⟨R',β',hx,hr,gy,aU⟩:=mR
 refine wpIn_mono (h R' w' β' a F hr (by rw [aU]; exact hf.mono gy.ext)) ?_
 rintro e a2 w2 ⟨s2,R2,β2,⟨hq,BR⟩,vN,yS,A9⟩
 exact hQ e s2 a2 w2 hq ⟨R2,β2,hx.trans BR,vN,gy.trans yS,A9.trans aU⟩
theorem kr.at (hf:bL R s1.ro F):∀ (k:List Bool) (c:Code) {Q:Exit→St→Prop} {s:St} {a:Act} {w':World} {Φ:Exit→Act→World→Prop},kr E k c Q s→At E s1 R w β s a w'→(∀ e s' a' w',Q e s'→At E s1 R w β s' a' w'→Φ e a' w')→GC F E.P k c Φ a w'
 | [],c,Q,s,a,w',Φ,h,mR,hQ=>jz.at hf h mR hQ
 | true :: k,c,Q,s,a,w',Φ,h,mR,hQ=>by
  cases c with
  | seq x y=>exact kr.at hf k y h mR hQ
  | _=>exact h.elim
 | false :: k,c,Q,s,a,w',Φ,h,mR,hQ=>by
  cases c with
  | seq x y=>
   refine kr.at hf k x (Q:=tE (jz E y Q) Q) h mR fun e s' a' w' hq pN=>?_
   cases e with
   | normal=>exact jz.at hf hq pN hQ
   | _=>exact hQ _ s' a' w' hq pN
  | _=>exact h.elim
theorem pf.at (hf:bL R s1.ro F):∀ (k:List Bool) (c:Code) {Q:Exit→St→Prop} {s:St} {a:Act} {w':World} {Φ:Exit→Act→World→Prop},pf E k c Q s→At E s1 R w β s a w' →
  (∀ s' a' w',Q .normal s'→At E s1 R w β s' a' w'→GC F E.P k c Φ a' w')→(∀ e s' a' w',e≠.normal→Q e s'→At E s1 R w β s' a' w'→Φ e a' w')→c.wpIn F 0 E.P Φ a w'
 | [],c,Q,s,a,w',Φ,h,mR,hS,hQ=>hS s a w' h mR
 | true :: k,c,Q,s,a,w',Φ,h,mR,hS,hQ=>by
  cases c with
  | seq x y=>
   refine wpIn_seq (jz.at hf (show jz E x (tE (pf E k y Q) Q) s from h) mR fun e s' a' w' hq pN=>?_)
   cases e with
   | normal=>exact pf.at hf k y hq pN hS hQ
   | exit i=>exact hQ _ s' a' w' (by simp) hq pN
   | ret=>exact hQ _ s' a' w' (by simp) hq pN
   | goto i=>exact hQ _ s' a' w' (by simp) hq pN
   | panic i=>exact hQ _ s' a' w' (by simp) hq pN
   | outgrown=>exact hQ _ s' a' w' (by simp) hq pN
  | _=>exact h.elim
 | false :: k,c,Q,s,a,w',Φ,h,mR,hS,hQ=>by
  cases c with
  | seq x y=>
   refine wpIn_seq (pf.at hf k x (Q:=Q) h mR hS fun e s' a' w' cg hq pN=>?_)
   cases e with
   | normal=>exact absurd rfl cg
   | exit i=>exact hQ _ s' a' w' cg hq pN
   | ret=>exact hQ _ s' a' w' cg hq pN
   | goto i=>exact hQ _ s' a' w' cg hq pN
   | panic i=>exact hQ _ s' a' w' cg hq pN
   | outgrown=>exact hQ _ s' a' w' cg hq pN
  | _=>exact h.elim
end YN
theorem eH.Na {E:Env} {b:Code} {s s1:St} {gh:List (Loc × Nat × TypeId)} {head:bI} {outs:List (XK × bI)} {pre:St→Option (head.ps.T ⊕ JT outs)} {rd:head.ps.T→Option (head.ps.T ⊕ JT outs)} {N:Nat} {k:List Bool} {r0:head.ps.T ⊕ JT outs} {o:JT outs} {Q:Exit→St→Prop}
  (hg:Am.fC gh s=some s1) (h0:pre s1=some r0)
  (hp:∀ s2 r,pre s2=some r→pf E k b (fun e s'=>tT s1 head outs e s'=some r) s2)
  (hr:∀ v r,rd v=some r→kr E k b (fun e s'=>zQ pre (tT s1 head outs) e s'=some r) (head.st s1 v))
  (hl:Sum.elim (fun v=>aZ rd N v) (fun x=>some x) r0=some o) (hQ:∀ (t:bI) (v:t.ps.T) (e:Exit),(∀ (α:Type) (K:Exit→St→α),IV s1 outs o K=K e (t.st s1 v))→Q e (t.st s1 v)∧aB s (t.st s1 v)) :
  jz E (.loop b) Q s:=fun R0 w β a F Ii sa=>by
 obtain ⟨R,k1,k2,k3,_⟩:=iI Ii hg
 have hf:bL R s1.ro F:=by rw [k3]; exact sa.mono k2.ext
 refine iJ (fun n a' w'=>∃ s2 r,pre s2=some r∧Sum.elim (fun v=>aZ rd n v) (fun x=>some x) r=some o∧At E s1 R w β s2 a' w') ?_ ⟨s1,r0,h0,hl,R,β,aB.refl s1,k1,Step.refl _ _ _ _,rfl⟩
 rintro n a' w' ⟨s2,r,UR,WV,mR⟩
 -- a way out
 have out:∀ {e:Exit} {s3:St} {a3:Act} {w3:World} {r:head.ps.T ⊕ JT outs} {n:Nat},e≠.normal→tT s1 head outs e s3=some r→Sum.elim (fun v=>aZ rd n v) (fun x=>some x) r=some o→At E s1 R w β s3 a3 w3→Qu E R0 w β s (fun e s'=>Q e s'∧aB s s') e a3 w3:=fun {e s3 a3 w3 r n} cg hK WV mR=>by
  obtain ⟨R3,β3,YP,UM,Q2,YQ⟩:=mR
  have key:∀ {u:JT outs},ik s1 outs e s3=some u→r=.inr u→Qu E R0 w β s (fun e s'=>Q e s'∧aB s s') e a3 w3:=fun {u} hu hru=>by
   subst hru
   obtain rfl:=Option.some.inj WV
   obtain ⟨t,v',q1,q2⟩:=oG hu
   obtain ⟨j1,j2⟩:=bI.BP YP k1 UM Q2 q1
   exact ⟨t.st s1 v',_,_,hQ t v' _ q2,j1,k2.trans j2,k3⟩
  cases e with
  | normal=>exact absurd rfl cg
  | exit i=>obtain ⟨u,q1,q2⟩:=bind_some (show ((ik s1 outs (.exit i) s3).bind fun o=>some (.inr o))=some r from hK); exact key q1 (Option.some.inj q2).symm
  | ret=>obtain ⟨u,q1,q2⟩:=bind_some (show ((ik s1 outs .ret s3).bind fun o=>some (.inr o))=some r from hK); exact key q1 (Option.some.inj q2).symm
  | goto i=>obtain ⟨u,q1,q2⟩:=bind_some (show ((ik s1 outs (.goto i) s3).bind fun o=>some (.inr o))=some r from hK); exact key q1 (Option.some.inj q2).symm
  | panic i=>obtain ⟨u,q1,q2⟩:=bind_some (show ((ik s1 outs (.panic i) s3).bind fun o=>some (.inr o))=some r from hK); exact key q1 (Option.some.inj q2).symm
  | outgrown=>obtain ⟨u,q1,q2⟩:=bind_some (show ((ik s1 outs .outgrown s3).bind fun o=>some (.inr o))=some r from hK); exact key q1 (Option.some.inj q2).symm
 refine pf.at hf k b (hp s2 r UR) mR (fun s3 a3 w3 hK Q3=>?_) (fun e s3 a3 w3 cg hK Q3=>?_)
 ·obtain ⟨v,q1,q2⟩:=bind_some (show ((head.dec s1 s3).bind fun v=>some (.inl v))=some r from hK)
  obtain rfl:=Option.some.inj q2
  have qf:aZ rd n v=some o:=WV
  cases n with
  | zero=>cases qf
  | succ n=>
   obtain ⟨r',h1,h2⟩:=bind_some (show ((rd v).bind fun o=>Sum.elim (fun v'=>aZ rd n v') (fun x=>some x) o)=some o from qf)
   obtain ⟨R3,β3,YP,UM,Q2,YQ⟩:=Q3
   obtain ⟨j1,j2⟩:=bI.BP YP k1 UM Q2 q1
   refine kr.at hf k b (hr v r' h1) ⟨_,_,head.kq s1 v,j1,j2,rfl⟩ fun e s4 a4 w4 TQ Ij=>?_
   cases e with
   | normal=>exact ⟨n,Nat.lt_succ_self n,s4,r',TQ,h2,Ij⟩
   | exit i=>exact out (by simp) TQ h2 Ij
   | ret=>exact out (by simp) TQ h2 Ij
   | goto i=>exact out (by simp) TQ h2 Ij
   | panic i=>exact out (by simp) TQ h2 Ij
   | outgrown=>exact out (by simp) TQ h2 Ij
 ·have:=out cg hK WV Q3
  cases e with
  | normal=>exact absurd rfl cg
  | _=>exact this
theorem pO {C:gn} {ih:TP} (hs:sQ C ih) {X:Type} {f:FuncId} {K:Exit→St→Option X}:∀ (k:List Bool) (q:Nat) (c:Code) (s:St) (x:X),bA (C.D.dt f) c=true→Kr ih yt f K k q c s=some x→pf C.D.toEnv k c (fun e s'=>K e s'=some x) s
 | [],_,_,_,_,_,h=>h
 | true :: k,q,c,s,x,hd,h=>by
  cases c with
  | seq a b=>
   rw [bA,Bool.and_eq_true] at hd
   refine (hs f _ a X yt mI _ s x hd.1 h).of fun e s' hq hx=>?_
   cases e with
   | normal=>exact ⟨pO hs k (2 * q+1) b s' x hd.2 hq,hx⟩
   | _=>exact ⟨hq,hx⟩
  | _=>cases h
 | false :: k,q,c,s,x,hd,h=>by
  cases c with
  | seq a b=>
   rw [bA,Bool.and_eq_true] at hd
   exact pO hs k (2 * q) a s x hd.1 h
  | _=>cases h
theorem kr.mono {E:Env}:∀ (k:List Bool) (c:Code) {Q Q':Exit→St→Prop} {s:St},(∀ e s',Q e s'→Q' e s')→kr E k c Q s→kr E k c Q' s
 | [],c,Q,Q',s,hQ,h=>eH.mono h fun e s' hh=>⟨hQ e s' hh.1,hh.2⟩
 | true :: k,c,Q,Q',s,hQ,h=>by
  cases c with
  | seq x y=>exact kr.mono k y hQ h
  | _=>exact h.elim
 | false :: k,c,Q,Q',s,hQ,h=>by
  cases c with
  | seq x y=>
   refine kr.mono k x (Q:=tE (jz E y Q) Q) (Q':=tE (jz E y Q') Q') (fun e s' hq=>?_) h
   cases e with
   | normal=>exact eH.mono hq fun e s' hh=>⟨hQ e s' hh.1,hh.2⟩
   | _=>exact hQ _ s' hq
  | _=>exact h.elim
theorem pP {C:gn} {ih:TP} (hs:sQ C ih) {X:Type} {f:FuncId}:∀ (k:List Bool) (q:Nat) (c:Code) (K:Exit→St→Option X) (s:St) (x:X),bA (C.D.dt f) c=true→M9 ih yt f k q c K s=some x→kr C.D.toEnv k c (fun e s'=>K e s'=some x) s
 | [],_,c,K,s,x,hd,h=>hs f _ c X yt mI K s x hd h
 | true :: k,q,c,K,s,x,hd,h=>by
  cases c with
  | seq a b=>
   rw [bA,Bool.and_eq_true] at hd
   exact pP hs k (2 * q+1) b K s x hd.2 h
  | _=>cases h
 | false :: k,q,c,K,s,x,hd,h=>by
  cases c with
  | seq a b=>
   rw [bA,Bool.and_eq_true] at hd
   refine kr.mono k a (fun e s' hq=>?_) (pP hs k (2 * q) a _ s x hd.1 h)
   cases e with
   | normal=>exact hs f _ b X yt mI K s' x hd.2 hq
   | _=>exact hq
  | _=>cases h
theorem C3 {C:gn} (Fw:∀ g e,C.DH g=some e→av C.D.toEnv g e) (n:Nat):sQ C (ev C n):=by
 induction n using Nat.strongRecOn with
 | _ n ihn=>
 cases n with
 | zero=>intro f p c X eJ _ K s x _ h; cases h
 | succ n=>
  have hs:=ihn n (Nat.lt_succ_self n)
  have plain:∀ (f:FuncId) (p:Nat) (c:Code) (X:Type) (eJ:Option X→Option X→Option X),tU eJ→∀ (K:Exit→St→Option X) (s:St) (x:X),((∃ b,c=.loop b)→C.sO f p=none) →
    bA (C.D.dt f) c=true→xn C (ev C n) f p c X eJ K s=some x→jz C.D.toEnv c (fun e s'=>K e s'=some x) s:=by
   intro f p c X eJ hm K s x gi hd h
   have zL:=C1 Fw hs hm
   have Ve:=Fx hs hm
   unfold xn at h
   cases c with
   | skip=>exact eH.skip ⟨h,aB.refl s⟩
   | label l=>exact eH.label ⟨h,aB.refl s⟩
   | exit id=>exact eH.exit ⟨h,aB.refl s⟩
   | ret=>exact eH.ret ⟨h,aB.refl s⟩
   | seq a b=>
    rw [bA,Bool.and_eq_true] at hd
    refine eH.seq ((hs f _ a X eJ hm _ s x hd.1 h).of fun e s' hq hx=>?_)
    cases e with
    | normal=>exact (hs f _ b X eJ hm _ s' x hd.2 hq).of fun e s2 me BR=>⟨me,hx.trans BR⟩
    | _=>exact ⟨hq,hx⟩
   | cond co a b=>
    rw [bA,Bool.and_eq_true] at hd
    simp only at h
    split at h
    ·rename_i t hb
     refine eH.cond hb (fun e=>?_) (fun e=>?_)
     ·subst e; exact hs f _ a X eJ hm _ s x hd.1 h
     ·subst e; exact hs f _ b X eJ hm _ s x hd.2 h
    ·cases h
   | block id c=>
    refine eH.block ((hs f _ c X eJ hm _ s x hd h).of fun e s' hq hx=>?_)
    cases e with
    | exit gZ=>
     simp only [Kj] at hq
     refine ⟨fun e=>?_,fun e=>?_⟩
     ·subst e; rw [qu] at hq; exact ⟨hq,hx⟩
     ·rw [mj e] at hq; exact ⟨hq,hx⟩
    | _=>exact ⟨hq,hx⟩
   | scope c=>
    refine eH.scope ((hs f _ c X eJ hm _ s x hd h).of fun e s' hq hx=>?_)
    cases e with
    | goto l=>cases hq
    | _=>exact ⟨hq,hx⟩
   | region id ops dr=>
    cases dr with
    | false=>exact eH.region (f:=f) (zS (xw zL Ve h))
    | true=>
     simp only at h
     rw [bA] at hd
     split at h
     ·rename_i pl hT
      rw [hT] at hd
      exact eH.draw (f:=f) hd (ru (jg zL Ve hm h))
     ·cases h
   | loop b=>
    have Pv:=gi ⟨b,rfl⟩
    refine eH.loop (fun m s'=>m≤n+1∧ev C m f p (.loop b) X eJ K s'=some x∧aB s s') ?_ (m:=n+1) ⟨Nat.le_refl _,?_,aB.refl s⟩
    ·rintro m s' ⟨Mt,hr,hx⟩
     cases m with
     | zero=>cases hr
     | succ m=>
      have iE:xo C (ev C m) f p (.loop b) X eJ K s'=some x:=hr
      unfold xo at iE
      rw [Pv] at iE
      refine (ihn m (by omega) f _ b X eJ hm _ s' x hd iE).of fun e s2 hq BR=>?_
      cases e with
      | normal=>exact ⟨m,Nat.lt_succ_self m,by omega,hq,hx.trans BR⟩
      | _=>exact ⟨hq,hx.trans BR⟩
    ·show xo C (ev C n) f p (.loop b) X eJ K s=some x
     unfold xo
     rw [Pv]
     exact h
   | rangeFunc g ps pI bd=>
    simp only at h
    split at h
    ·rename_i aU
     split at h
     ·rename_i hf first cap hg
      refine eH.rangeFunc (4096 * p+f) aU hg ((zL _ _ _ _ _ h).mono fun r G' hq=>?_)
      unfold Yw
      split at hq
      ·rename_i busy pending fn sl nn pp aa bb dd done Fb
       rw [Fb]
       simp only
       obtain ⟨h1,h2⟩:=bc hq
       refine ⟨by cases busy <;> cases done <;> simp_all,?_⟩
       have MU:∀ (G:List GO) (m:List Nat),aB s ⟨s.ae,s.boxes,G,m,s.ro,s.n⟩:=fun _ _=>⟨⟨[],rfl⟩,⟨[],rfl⟩,rfl⟩
       split at h2
       ·rw [cA] at h2; exact ⟨h2,MU _ _⟩
       ·rw [cA] at h2; exact eH.ret ⟨h2,MU _ _⟩
       ·rw [cA] at h2; exact eH.exit ⟨h2,MU _ _⟩
       ·cases h2
      ·cases hq
     ·cases h
    ·rename_i id aU
     split at h
     ·rename_i bu0 p0 fn0 sl0 n0 ps0 as0 bd0 d0 dn0 YR
      split at h
      ·rename_i hf first cap hg
       refine eH.Fe (4096 * p+f) aU YR hg ((zL _ _ _ _ _ h).mono fun r G' hq=>?_)
       unfold QQ
       split at hq
       ·rename_i busy pending fn sl nn pp aa bb dd done Fb
        rw [Fb]
        simp only
        obtain ⟨h1,h2⟩:=bc hq
        refine ⟨by cases busy <;> cases done <;> simp_all,?_⟩
        have MU:∀ (G:List GO) (m:List Nat),aB s ⟨s.ae,s.boxes,G,m,s.ro,s.n⟩:=fun _ _=>⟨⟨[],rfl⟩,⟨[],rfl⟩,rfl⟩
        split at h2
        ·rw [cA] at h2; exact ⟨h2,MU _ _⟩
        ·rw [cA] at h2; exact eH.ret ⟨h2,MU _ _⟩
        ·rw [cA] at h2; exact eH.exit ⟨h2,MU _ _⟩
        ·cases h2
       ·cases hq
      ·cases h
     ·cases h
   | _=>cases h
  intro f p c X eJ hm K s x hd h
  change xo C (ev C n) f p c X eJ K s=some x at h
  unfold xo at h
  split at h
  ·rename_i hc
   exact plain f p c X eJ hm K s x (fun _=>hc) hd h
  ·rename_i ct hct
   split at h
   ·rename_i rv hc
    generalize nY (il c []) rv=outs at h
    cases JD:Kl c with
    | true=>rw [JD] at h; cases h
    | false=>
    rw [JD] at h
    obtain ⟨o,h1,h2⟩:=bind_some (show (xn C (ev C n) f p c (JT outs) yt (ik s outs) s).bind (fun o=>IV s outs o K)=some x from h)
    have hp:=plain f p c (JT outs) yt mI (ik s outs) s o (fun ⟨b,hb⟩=>by subst hb; cases JD) hd h1
    refine eH.YI (s:=s) (Q':=fun e s'=>ik s outs e s'=some o) (eH.mono hp fun e s' hh=>⟨hh.2,hh.1⟩) fun e s' hq=>?_
    obtain ⟨t,v,q1,q2⟩:=oG hq
    exact ⟨t,v,q1,(q2 _ K).symm.trans h2,t.kq s v⟩
   ·rename_i gh rA rv hc
    split at h
    ·rename_i b
     split at h
     ·rename_i s1 hg
      generalize nY (il b []) rv=outs at h
      generalize nX (il b []) rA=head at h
      unfold Pt at h
      obtain ⟨v0,h0,h⟩:=bind_some h
      obtain ⟨o,hl,h⟩:=bind_some h
      refine eH.Vb hg h0 (fun v r hr=>hs f _ b _ yt mI _ _ r hd hr) hl fun t v e fP=>?_
      exact ⟨(fP _ K).symm.trans h,(ko hg).trans (t.kq s1 v)⟩
     ·cases h
    ·cases h
   ·rename_i k gh rA rv hc
    split at h
    ·rename_i b
     split at h
     ·rename_i s1 hg
      generalize nY (il b []) rv=outs at h
      generalize nX (il b []) rA=head at h
      unfold Va at h
      obtain ⟨o,hl,h⟩:=bind_some h
      obtain ⟨r0,h0,hl⟩:=bind_some hl
      refine eH.Na hg h0 (fun s2 r hr=>pO hs k (2 * p) b s2 r hd hr) (fun v r hr=>pP hs k (2 * p) b _ _ r hd hr) hl fun t v e fP=>?_
      exact ⟨(fP _ K).symm.trans h,(ko hg).trans (t.kq s1 v)⟩
     ·cases h
    ·cases h
   ·rename_i gh rA rv hc
    split at h
    ·rename_i b
     split at h
     ·rename_i s1 hg
      generalize nY (il b []) rv=outs at h
      generalize nX (il b []) rA=head at h
      unfold Kn at h
      obtain ⟨v0,h0,h⟩:=bind_some h
      obtain ⟨o,hl,h⟩:=bind_some h
      refine eH.Q0 hg h0 (fun k v u hu=>hs f _ b _ yt mI _ _ u hd hu) hl fun t v e fP=>?_
      exact ⟨(fP _ K).symm.trans h,(ko hg).trans (t.kq s1 v)⟩
     ·cases h
    ·cases h
   ·rename_i gh rA hc
    split at h
    ·rename_i b
     split at h
     ·rename_i s1 hg
      generalize nX (il b []) rA=head at h
      unfold Kp at h
      obtain ⟨v0,h0,hl⟩:=bind_some h
      exact eH.Q1 hg h0 (fun k v u hu=>hs f _ b _ yt mI _ _ u hd hu) hl
     ·cases h
    ·cases h
   ·rename_i tq sz ty rA rv hc
    split at h
    ·rename_i b
     split at h
     ·rename_i cc s1 hg
      cases cc with
      | false=>cases h
      | true=>
      generalize nY (il b []) rv=outs at h
      generalize nX (il b []) rA=head at h
      have h:Fp C (ev C n) f p b s1 head outs tq sz ty K=some x:=h
      unfold Fp at h
      obtain ⟨v0,h0,h⟩:=bind_some h
      obtain ⟨o,hl,h⟩:=bind_some h
      refine eH.Kh hg h0 (fun v r hr=>?_) hl fun t v e fP=>?_
      ·cases aU:tS (head.st s1 v) tq sz ty with
       | none=>rw [aU] at hr; cases hr
       | some s2=>
        rw [aU] at hr
        exact ⟨s2,rfl,hs f _ b _ yt mI _ _ r hd hr⟩
      ·exact ⟨(fP _ K).symm.trans h,(tW hg).2.trans (t.kq s1 v)⟩
     ·cases h
    ·cases h
   ·cases h
end Go.Am
namespace Go.Am
open Go
noncomputable def gn.fn (C:gn) (n:Nat) (g:FuncId) (ps:aK) (p:aj) (x:ps.T):Option p.T:=
 CZ C (ev C n) yt g (ps.enc x) [] (fun r _=>p.dec r)
theorem gn.cj {C:gn} (Fw:∀ g e,C.DH g=some e→av C.D.toEnv g e) {n:Nat} {g:FuncId} {ps:aK} {p:aj} (h1:ps.under 0=true) (h2:p.under 0=true) :
  av C.D.toEnv g ⟨ps,p,C.fn n g ps p⟩:=fun x y h=>by
 refine bz.mono (bz.of (p:=p) (Q:=fun z=>z=y) (ps.dj x h1) h2 ((n5 (C3 Fw n) mI g _ [] _ y h).mono fun r _ hr=>⟨y,hr,rfl⟩)) ?_
 rintro r ⟨z,rfl,rfl⟩
 rfl
theorem bz.env {E E':Env} {g:FuncId} {args:List AV} {Q:AV→Prop} (hP:E.P=E'.P) (hg:E.ck=E'.ck) (h:bz E g args Q) (vH:E.lo=E'.lo:=by rfl) (Nb:E.gx=E'.gx:=by rfl):bz E' g args Q:=by
 have go:∀ {R:af} {w:World} {x:Nat} {cs:List AV},ln E R w x cs↔ln E' R w x cs:=fun {R w x cs}=>by unfold ln; rw [Nb]
 have BP:∀ {R:af} {w:World} {G:List GO},dN E R w G↔dN E' R w G:=fun {R w G}=>
  ⟨fun h=>⟨h.len,h.obj,h.inj,h.wf,fun g cs hh=>go.1 (h.ck g cs (by rw [hg]; exact hh)),by rw [← vH]; exact h.lo⟩,fun h=>⟨h.len,h.obj,h.inj,h.wf,fun g cs hh=>go.2 (h.ck g cs (by rw [← hg]; exact hh)),by rw [vH]; exact h.lo⟩⟩
 intro G
 obtain ⟨h1,h2⟩:=h G
 rw [hP] at h1 h2
 refine ⟨h1,fun R w cs hr hl=>(h2 R w cs (BP.2 hr) hl).mono fun e w' he=>?_⟩
 cases e with
 | returned c=>obtain ⟨r,G',R',k1,k2,k3,k4⟩:=he; exact ⟨r,G',R',k1,k2,BP.1 k3,k4⟩
 | panicked c=>exact he
 | outgrown=>exact he
theorem bz.more {E E':Env} {g:FuncId} {args:List AV} {Q:AV→Prop} (hP:E.P=E'.P) (hg:∀ g cs,E.ck g=some cs→E'.ck g=some cs) (h:bz E g args Q) (vH:E.lo=E'.lo:=by rfl) (Nb:E.gx=fun _=>false:=by rfl):bz E' g args Q:=by
 intro G
 obtain ⟨h1,h2⟩:=h G
 rw [hP] at h1 h2
 refine ⟨h1,fun R w cs hr hl=>(h2 R w cs ⟨hr.len,hr.obj,hr.inj,hr.wf,fun g cs hh=>⟨(hr.ck g cs (hg g cs hh)).1,fun hx=>by rw [Nb] at hx; cases hx⟩,by rw [vH]; exact hr.lo⟩ hl).mono fun e w' he=>?_⟩
 cases e with
 | returned c=>
  obtain ⟨r,G',R',k1,k2,k3,k4⟩:=he
  exact ⟨r,G',R',k1,k2,⟨k3.len,k3.obj,k3.inj,k3.wf,fun g cs hh=>(hr.ck g cs hh).mono k4.ext,by rw [← vH]; exact k3.lo⟩,k4⟩
 | panicked c=>exact he
 | outgrown=>exact he
def C4:List (Nat × bl)→FuncId→Option bl
 | [],_=>none
 | (a,e) :: l,g=>bif Nat.beq a g then some e else C4 l g
theorem bN {E:Env}:∀ {l:List (Nat × bl)},(∀ a e,(a,e)∈l→av E a e)→∀ g e,C4 l g=some e→av E g e
 | [],_,g,e,h=>by cases h
 | (a,x) :: l,hl,g,e,h=>by
  unfold C4 at h
  cases hb:Nat.beq a g with
  | true=>
   rw [hb] at h
   cases h
   rw [← Nat.eq_of_beq_eq_true hb]
   exact hl a _ (by simp)
  | false=>
   rw [hb] at h
   exact bN (fun a e hm=>hl a e (by simp [hm])) g e h
def Pw:List (Nat × dL)→Nat→Option dL
 | [],_=>none
 | (a,c) :: l,p=>bif Nat.beq a p then some c else Pw l p
def Ku:List (Nat × List (Nat × dL))→FuncId→Nat→Option dL
 | [],_,_=>none
 | (a,c) :: l,g,p=>bif Nat.beq a g then Pw c p else Ku l g p
def GD:Option Unit→Option Unit→Option Unit
 | some _,some _=>some ()
 | _,_=>none
theorem Fy:tU GD:=fun a b x h=>by
 cases a <;> cases b <;> first | (cases h; done) | exact ⟨rfl,rfl⟩
theorem jh {C:gn} (Fw:∀ g e,C.DH g=some e→av C.D.toEnv g e) {n:Nat} {g:FuncId} {args:List AV} {p:aj} {ok:p.T→Bool} (h1:aF 0 args=true) (h2:p.under 0=true)
  (h:CZ C (ev C n) GD g args [] (fun r _=>bif p.fits r&&ok (p.bh r) then some () else none)=some ()):bz C.D.toEnv g args (fun r=>∃ y,r=p.enc y∧ok y=true):=
 bz.of (p:=p) (Q:=fun y=>ok y=true) h1 h2 ((n5 (C3 Fw n) Fy g args [] _ () h).mono fun r _ hr=>by
  obtain ⟨k,_⟩:=bc hr
  rw [Bool.and_eq_true] at k
  exact ⟨p.bh r,by simp [aj.dec,k.1],k.2⟩)
end Go.Am
