/- The abstract machine: an evaluator of code on states with leaves. -/
import Derived.Test.YtegoimldbgdeiaaGreatAmKK
set_option linter.all false
open Bool renaming and_eq_true→aao
open Classical renaming propDecidable→aaq
open Nat renaming lt_succ_self→aap, beq→aav, eq_of_beq_eq_true→aax
open Option.some renaming inj→aal
open Sum renaming elim→aas
namespace Go.Am
open Go
structure bK where
 ps:aQ
 p:aP
 T:ps.T→Option p.T
def aI (E:Env) (g:FuncId) (e:bK):Prop:=∀ x y,e.T x=some y→bJ E g (e.ps.enc x) (fun r=>r=e.p.enc y)
inductive XK
 |norm
 |ret
 |ex (id:Nat)
def XK.is:XK→Exit→Bool
 |.norm,.normal=>true
 |.ret,.ret=>true
 |.ex i,.exit j=>aav i j
 |_,_=>false
def XK.exit:XK→Exit
 |.norm=>.normal
 |.ret=>.ret
 |.ex i=>.exit i
theorem XK.Jr {k:XK} {e:Exit} (h:k.is e=true):e=k.exit:=by
 cases k <;> cases e <;> simp_all [XK.is,XK.exit]
def JT:List (XK × ca)→Type
 |[]=>Empty
 |[x]=>x.2.ps.T
 |x :: y :: l=>x.2.ps.T ⊕ JT (y :: l)
def ke (s:St):(outs:List (XK × ca))→Exit→St→Option (JT outs)
 |[],_,_=>none
 |[x],e,s'=>bif x.1.is e then x.2.dec s s' else none
 |x :: y :: l,e,s'=>bif x.1.is e then (x.2.dec s s').bind fun v=>some (.inl v) else (ke s (y :: l) e s').bind fun o=>some (.inr o)
def L0 {α:Type} (s:St):(outs:List (XK × ca))→JT outs→(Exit→St→α)→α
 |[],o,_=>Empty.rec (fun _=>α) o
 |[x],o,K=>K x.1.exit (x.2.st s o)
 |x :: y :: l,o,K=>aas (fun v=>K x.1.exit (x.2.st s v)) (fun o=>L0 s (y :: l) o K) o
inductive dY
 |loop (gh:List (Loc × Nat × TypeId)) (head:ca) (outs:List (XK × ca))
 |join (outs:List (XK × ca))
 |rot (k:List Bool) (gh:List (Loc × Nat × TypeId)) (head:ca) (outs:List (XK × ca))
 |alt (n:Nat) (a b:dY)
 |fq (gh:List (Loc × Nat × TypeId)) (head:ca) (outs:List (XK × ca))
 |S2 (gh:List (Loc × Nat × TypeId)) (head:ca)
 |Np (t:Tmp) (sz:Nat) (e:TypeId) (head:ca) (outs:List (XK × ca))
def Nq (n:Nat):dY→dY
 |.alt m a b=>bif aav n m then Nq n a else Nq n b
 |c=>c
def aB {V X:Type} (rd:V→Option (V ⊕ X)):Nat→V→Option X
 |0,_=>none
 |n+1,v=>(rd v).bind fun o=>aas (fun v'=>aB rd n v') (fun x=>some x) o
def fq {V X:Type} (rd:(V→Option X)→V→Option X):Nat→V→Option X
 |0,_=>none
 |n+1,v=>rd (fq rd n) v
structure rT (E:Env) (g:FuncId) where
 f:List AV→List GO→Option (Bool × AV × List GO)
 ok:∀ args G r G',f args G=some (true,r,G')→cZ E g args G (fun r' CQ=>r'=r∧CQ=G')
structure A1 (E:Env) (g:FuncId) where
 ps:aQ
 outs:List RF
 T:ps.T→Option (XT outs)
 ok:∀ x y,T x=some y→rS E g (ps.enc x) outs (fun z=>z=y)
structure jT where
 D:UR
 Lb:FuncId→Option bK
 Eb:FuncId→Nat→Option dY
 fz:Bool
 N:Nat
 gt:(g:FuncId)→Option (rT D.toEnv g):=fun _=>none
 xt:(g:FuncId)→Option (A1 D.toEnv g):=fun _=>none
def sD {α:Type} (fz:Bool) (s:St) (K:St→α):α:=match fz with
 |true=>H0 s K
 |false=>match s with
  |⟨sl,bx,G,m,ro,n⟩=>K ⟨sl,bx,G,m,ro,n⟩
theorem dw {α:Type} (fz:Bool) (s:St) (K:St→α):sD fz s K=K s:=by
 cases fz
 ·rfl
 ·exact K1 s K
abbrev rU (X:Type):=FuncId→List AV→List GO→(AV→List GO→Option X)→Option X
abbrev oO (X:Type):=Nat→List AV→List GO→(Bool→List GO→Option X)→Option X
section ev
variable {X:Type}
def Ec (E:Env) (s:St) (o:Oper):Option (Int × Nat × (Nat→Oper)):=match o.op with
 |.index t x (.tmp y)=>match bG E s.ab (.tmp y),E.ti t with
  |.v (.int k n),some i=>match i.k with
   |.arr len _ _=>some (n,len,fun j=>{ o with op:=.index t x (.const (.int k j)) })
   |_=>none
  |_,_=>none
 |.indexAddr t x (.tmp y)=>match bG E s.ab (.tmp y),E.ti t with
  |.v (.int k n),some i=>match i.k with
   |.arr len _ _=>match bG E s.ab x with
    |.v (.ep _)=>match E.Pm t with
     |some _=>none
     |none=>some (n,len,fun j=>{ o with op:=.indexAddr t x (.const (.int k j)) })
    |_=>some (n,len,fun j=>{ o with op:=.indexAddr t x (.const (.int k j)) })
   |_=>none
  |_,_=>none
 |_=>none
def yX (E:Env) (fz:Bool) (f:FuncId) (g:Nat→Oper) (n:Int) (K:St→Option X) (s:St):Nat→Nat→Option X
 |0,_=>none
 |m+1,j=>bif decide (n=(j:Int)) then (match ao E f s (g j) with
   |some (c,s')=>bif c then sD fz s' K else none
   |_=>none) else yX E fz f g n K s m (j+1)
def U1 (E:Env) (fz:Bool) (call:rU X) (oh:oO X) (f:FuncId) (o:Oper) (K:St→Option X) (s:St):Option X:=
 match o.op with
 |.call { callee:=.value x,args,.. }=>match bG E s.ab x,nL E s.ab args.toList with
  |.v (.fn g first cap),some l=>call g (first++l++cap) s.G (fun r G'=>sD fz ((s.bq G').put o.dst (.v r)) K)
  |.v (.yield id),some l=>oh id l s.G (fun b G'=>sD fz ((s.bq G').put o.dst (.v (.bool b))) K)
  |_,_=>none
 |.defer _=>none
 |.next x true=>match Ni s o.dst (bG E s.ab x) with
  |some (b,s1,s2)=>bif b then sD fz s1 K else sD fz s2 K
  |none=>none
 |.lookup t m k ok=>match yT E s t (bG E s.ab m) (bG E s.ab k) with
  |some (c,v,b)=>bif c then sD fz (s.put o.dst (.v (if ok then .bP [v,.bool b] else v))) K else none
  |none=>match ao E f s o with
   |some (c,s')=>bif c then sD fz s' K else none
   |_=>none
 |.mapUpdate t m k x=>match o.dst,yU E s t (bG E s.ab m) (bG E s.ab k) (bG E s.ab x) with
  |none,some (c,s')=>bif c then sD fz s' K else none
  |_,_=>none
 |.insert t m k x=>match o.dst,yU E s t (bG E s.ab m) (bG E s.ab k) (bG E s.ab x) with
  |none,some (c,s')=>bif c then sD fz s' K else none
  |_,_=>none
 |.call { callee:=.builtin .append,args,argTypes }=>match iV E f s o with
  |some (c,s')=>bif c then sD fz s' K else none
  |none=>match nL E s.ab args.toList with
   |some l=>match D6 E s o.dst l argTypes.toList with
    |some (b,s1,c,s2)=>bif b then sD fz s1 K else bif c then sD fz s2 K else none
    |none=>match ao E f s o with
     |some (c,s')=>bif c then sD fz s' K else none
     |_=>none
   |none=>none
 |.call { callee:=.builtin .copy,args,argTypes }=>match nL E s.ab args.toList with
  |some l=>match Nk E s o.dst l argTypes.toList with
   |some (c,s')=>bif c then sD fz s' K else none
   |none=>match ao E f s o with
    |some (c,s')=>bif c then sD fz s' K else none
    |_=>none
  |none=>none
 |_=>match Ec E s o with
  |some (n,len,g)=>yX E fz f g n K s len 0
  |none=>match ao E f s o with
   |some (c,s')=>bif c then sD fz s' K else none
   |_=>none
def rV (E:Env) (fz:Bool) (call:rU X) (oh:oO X) (f:FuncId) (ops:List Oper) (o:Oper) (K:St→Option X) (s:St):Option X:=
 match o.guard with
 |none=>U1 E fz call oh f o K s
 |some (j,want)=>match rE ops j with
  |none=>none
  |some d=>match lk s.ab d with
   |.v (.bool b)=>match want with
    |true=>bif b then sD fz (s.put (some d) (.v (.bool true))) (U1 E fz call oh f o K) else sD fz ((s.put (some d) (.v (.bool false))).put o.dst (.v hZ)) K
    |false=>bif b then sD fz ((s.put (some d) (.v (.bool true))).put o.dst (.v hZ)) K else sD fz (s.put (some d) (.v (.bool false))) (U1 E fz call oh f o K)
   |.v (.bP [])=>sD fz (s.put o.dst (.v hZ)) K
   |_=>none
def Ed (E:Env) (fz:Bool) (call:rU X) (oh:oO X) (f:FuncId) (ops:List Oper) (o:Oper) (K:St→Option X) (s:St):Option X:=
 match o.guard,kW E f s o with
 |none,some s'=>sD fz s' K
 |_,_=>rV E fz call oh f ops o K s
noncomputable def FU {X:Type} (l:List Nat) (F:Nat→Option X):Option X:=match l with
 |[]=>none
 |i :: r=>@ite _ (∀ j∈r,F j=F i) (aaq _) (F i) none
theorem Lc {X:Type} {l:List Nat} {F:Nat→Option X} {x:X} (h:FU l F=some x):∀ i∈l,F i=some x:=by
 cases l with
 |nil=>cases h
 |cons i r=>
  have h:@ite _ (∀ j∈r,F j=F i) (aaq _) (F i) none=some x:=h;by_cases hr:∀ j∈r,F j=F i
  ·rw [if_pos hr] at h;intro j hj;rcases List.mem_cons.1 hj with rfl|hj
   ·exact h
   ·rw [hr j hj]; exact h
  ·rw [if_neg hr] at h;cases h
theorem vi {X:Type} {l:List Nat} {F:Nat→Option X} {x:X} (hl:l≠[]) (h:∀ i∈l,F i=some x):FU l F=some x:=by
 cases l with
 |nil=>exact absurd rfl hl
 |cons i r=>
  show @ite _ (∀ j∈r,F j=F i) (aaq _) (F i) none=some x;have hr:∀ j∈r,F j=F i:=fun j hj=>by rw [h j (List.mem_cons_of_mem _ hj),h i List.mem_cons_self]
  rw [if_pos hr];exact h i List.mem_cons_self
noncomputable def yY (E:Env) (fz:Bool) (call:rU X) (oh:oO X) (f:FuncId) (ops:List Oper) (o:Oper) (K:St→Option X) (s:St):Option X:=
 match o.guard,xm E f s o,vY E s o with
 |none,some (c,s'),_=>bif c then sD fz s' K else none
 |none,none,some (c,s0,left,g)=>bif c then (bif left.isEmpty then sD fz s0 K else FU left fun i=>bif (g i).1 then sD fz (g i).2 K else none) else none
 |_,_,_=>Ed E fz call oh f ops o K s
noncomputable def Ee (E:Env) (fz:Bool) (call:rU X) (oh:oO X) (f:FuncId) (ops:List Oper) (o:Oper) (K:St→Option X) (s:St):Option X:=
 match Kj E f s o with
 |some (c,s')=>bif c then yY E fz call oh f ops o K s' else none
 |none=>yY E fz call oh f ops o K s
noncomputable def P8 (E:Env) (fz:Bool) (call:rU X) (oh:oO X) (f:FuncId) (ops:List Oper):List Oper→(St→Option X)→St→Option X
 |[],K,s=>K s
 |o :: rest,K,s=>Ee E fz call oh f ops o (fun s'=>match CD E f o s' with
  |some (c,s2)=>bif c then P8 E fz call oh f ops rest K s2 else none
  |none=>none) s
def U2 (E:Env) (f:FuncId) (ops:List Oper) (o:Oper) (s:St):Bool:=match o.op,o.dst with
 |.lookup t m k ok,some d=>match EG ops s o,yT E s t (bG E s.ab m) (bG E s.ab k) with
  |some true,some (c,v,b)=>c&&DX (.v (if ok then .bP [v,.bool b] else v)) (lk s.ab d)
  |_,_=>bRe E f ops o s
 |_,_=>bRe E f ops o s
def sE (E:Env) (f:FuncId) (ops:List Oper):List Nat→St→Bool
 |[],_=>true
 |k :: l,s=>(match nth ops k with
  |some ok=>U2 E f ops ok s
  |none=>true)&&sE E f ops l s
def oT (E:Env) (fz:Bool) (call:rU X) (oh:oO X) (gq:Option X→Option X→Option X) (f:FuncId) (ops:List Oper):DT→(St→Option X)→St→Option X
 |.done,K,s=>K s
 |.take j _ t,K,s=>match nth ops j with
  |some oj=>rV E fz call oh f ops oj (oT E fz call oh gq f ops t K) s
  |none=>none
 |.br i re _ t .stop,K,s=>match nth ops i with
  |some oi=>rV E fz call oh f ops oi (fun s'=>bif sE E f ops re s' then oT E fz call oh gq f ops t K s' else none) s
  |none=>none
 |.br i re _ t more,K,s=>gq (match nth ops i with
  |some oi=>rV E fz call oh f ops oi (fun s'=>bif sE E f ops re s' then oT E fz call oh gq f ops t K s' else none) s
  |none=>none) (oT E fz call oh gq f ops more K s)
 |.stop,_,_=>none
 |.al j W t,K,s=>match nth ops j with
  |some oj=>bif UK E f oj W s then rV E fz call oh f ops oj (oT E fz call oh gq f ops t K) s else none
  |none=>none
end ev
def CU {X:Type} (N:St→Option X) (Q:Exit→St→Option X):Exit→St→Option X
 |.normal,s=>N s
 |e,s=>Q e s
def Nr {X:Type} (id:Nat) (Q:Exit→St→Option X):Exit→St→Option X
 |.exit iU,s=>bif aav iU id then Q .normal s else Q (.exit iU) s
 |e,s=>Q e s
def U3 {X:Type} (Q:Exit→St→Option X):Exit→St→Option X
 |.goto _,_=>none
 |e,s=>Q e s
def Ns {X:Type} (E:Env) (fn:Func) (K:AV→List GO→Option X):Exit→St→Option X
 |.normal,s | .ret,s=>match rG s.marks s.G with
  |some G=>match MW E (s.bq G) fn with
   |some r=>K r G
   |none=>none
  |none=>none
 |_,_=>none
def xQ (s:St) (head:ca) (outs:List (XK × ca)):Exit→St→Option (head.ps.T ⊕ JT outs)
 |.normal,s'=>(head.dec s s').bind fun v=>some (.inl v)
 |e,s'=>(ke s outs e s').bind fun o=>some (.inr o)
noncomputable def A2 {X:Type} (a b:Option X):Option X:=@ite _ (a=b) (aaq _) a none
def xR {X:Type} (gq:Option X→Option X→Option X):Prop:=∀ a b x,gq a b=some x→a=some x∧b=some x
def Ik {X:Type} (id:Nat) (K:Bool→List GO→Option X):Exit→St→Option X:=fun e s=>match nth s.G id with
 |some (.loop _ _ fn sl n ps tR bd d _)=>match e with
  |.normal=>K true (ak s.G id (.loop false none fn sl n ps tR bd d false))
  |.ret=>K false (ak s.G id (.loop false (some .ret) fn sl n ps tR bd d true))
  |.exit i=>K false (ak s.G id (.loop false (some (.exit i)) fn sl n ps tR bd d true))
  |_=>none
 |_=>none
def fpF (fp:Nat):Nat:=fp % 4096
def fpP (fp:Nat):Nat:=fp / 4096
abbrev XM:=FuncId→Nat→Code→(X:Type)→(Option X→Option X→Option X)→(Exit→St→Option X)→St→Option X
section
variable (C:jT) (ih:XM)
def CV {X:Type} (gq:Option X→Option X→Option X):rU X:=fun g args G K=>
 bif C.D.okF g then match C.D.P.funcs[g]? with
   |some fn=>match fn.body with
    | some b => bif !(fn.name == "runtime.NumGoroutine") then ih g 1 b X gq (Ns C.D.toEnv fn (bif C.D.zg g 131072 then UX C.D.toEnv (C.D.zg g 131073) (C.D.zg g 131074) fn.resultTypes.toList K else K)) (St.init fn.ntmps args G) else none
    |none=>none
   |none=>none
  else none
def CW {X:Type} (gq:Option X→Option X→Option X):rU X:=fun g args G K=>
 match C.Lb g with
 |some e=>(e.ps.dec args).bind fun x=>(e.T x).bind fun y=>K (e.p.enc y) G
 |none=>match C.gt g with
  |some e=>match e.f args G with
   |some (c,r,G')=>bif c then K r G' else none
   |none=>none
  |none=>match C.xt g with
   |some e=>(e.ps.dec args).bind fun x=>(e.T x).bind fun o=>XL G K e.outs o
   |none=>CV C ih gq g args G K
def P9 (n:Nat):List Tmp→Bool
 |[]=>true
 |t :: l=>Nat.blt t n&&P9 n l
def Qa {X:Type} (gq:Option X→Option X→Option X):oO X:=fun id args G K=>match nth G id with
 |some (.loop false _ fp sl n ps tR bd _ false)=>
  bif aav args.length ps.length&&P9 n ps&&bR (C.D.dt (fpF fp)) tR&&bR (C.D.dt (fpF fp)) bd then
   ih (fpF fp) (2 * fpP fp) tR X gq (fun e s1=>match e with
    |.normal=>match nth s1.G id with
     |some (.loop false p fn sl n ps tR XJ d false)=>ih (fpF fp) (2 * fpP fp+1) bd X gq (Ik id K) (s1.bq (ak s1.G id (.loop true p fn sl n ps tR XJ d false)))
     |_=>none
    |_=>none) (St.round id (AS ps args sl) n G)
  else none
 |_=>none
noncomputable def A3 (f:FuncId) (p:Nat) (c:Code) (X:Type) (gq:Option X→Option X→Option X) (K:Exit→St→Option X) (s:St):Option X:=
 match c with
 |.skip=>K .normal s
 |.label _=>K .normal s
 |.seq x y=>ih f (2 * p) x X gq (CU (ih f (2 * p+1) y X gq K) K) s
 |.cond c x y=>match bG C.D.toEnv s.ab c with
  |.v (.bool b)=>bif b then ih f (2 * p) x X gq K s else ih f (2 * p+1) y X gq K s
  |_=>none
 |.block id c=>ih f (2 * p) c X gq (Nr id K) s
 |.exit id=>K (.exit id) s
 |.ret=>K .ret s
 |.region _ ops false=>P8 C.D.toEnv C.fz (CW C ih gq) (Qa C ih gq) f ops.toList ops.toList (K .normal) s
 |.region id ops true=>match C.D.dt f id with
  |some pl=>oT C.D.toEnv C.fz (CW C ih gq) (Qa C ih gq) gq f ops.toList pl.T (K .normal) s
  |none=>none
 |.scope c=>ih f (2 * p) c X gq (U3 K) s
 |.loop c=>ih f (2 * p) c X gq (CU (ih f p (.loop c) X gq K) K) s
 |.rangeFunc g ps tR bd=>match s.ro with
  |none=>match bG C.D.toEnv s.ab g with
   |.v (.fn h first cap)=>CW C ih gq h (first++[.yield (s.G.length+1)]++cap) (s.G++[.defers true]++[.loop false none (4096 * p+f) (gA s.ab) s.n ps.toList tR bd s.G.length false])
    (fun _ G'=>match nth G' (s.G.length+1) with
     |some (.loop busy pending _ _ _ _ _ _ _ done)=>bif !busy || done then
       match pending with
       |none=>sD C.fz ⟨s.ab,s.boxes,ak G' (s.G.length+1) .dead,s.G.length :: s.marks,s.ro,s.n⟩ (K .normal)
       |some .ret=>sD C.fz ⟨s.ab,s.boxes,ak G' (s.G.length+1) .dead,s.G.length :: s.marks,s.ro,s.n⟩ (K .ret)
       |some (.exit i)=>sD C.fz ⟨s.ab,s.boxes,ak G' (s.G.length+1) .dead,s.G.length :: s.marks,s.ro,s.n⟩ (K (.exit i))
       |_=>none
      else none
     |_=>none)
   |_=>none
  |some id=>match nth s.G id with
   |some (.loop _ _ _ _ _ _ _ _ d0 _)=>match bG C.D.toEnv s.ab g with
    |.v (.fn h first cap)=>CW C ih gq h (first++[.yield s.G.length]++cap) (s.G++[.loop false none (4096 * p+f) (gA s.ab) s.n ps.toList tR bd d0 false])
     (fun _ G'=>match nth G' s.G.length with
      |some (.loop busy pending _ _ _ _ _ _ _ done)=>bif !busy || done then
        match pending with
        |none=>sD C.fz ⟨s.ab,s.boxes,ak G' s.G.length .dead,s.marks,s.ro,s.n⟩ (K .normal)
        |some .ret=>sD C.fz ⟨s.ab,s.boxes,ak G' s.G.length .dead,s.marks,s.ro,s.n⟩ (K .ret)
        |some (.exit i)=>sD C.fz ⟨s.ab,s.boxes,ak G' s.G.length .dead,s.marks,s.ro,s.n⟩ (K (.exit i))
        |_=>none
       else none
      |_=>none)
    |_=>none
   |_=>none
 |_=>none
def Il:List Oper→List Tmp
 |[]=>[]
 |o :: l=>match o.dst with
  |some d=>d :: Il l
  |none=>Il l
def kf:Code→List Tmp→List Tmp
 |.region _ ops _,r=>Il ops.toList++r
 |.seq x y,r=>kf x (kf y r)
 |.cond _ x y,r=>kf x (kf y r)
 |.block _ c,r=>kf c r
 |.scope c,r=>kf c r
 |.loop c,r=>kf c r
 |.rangeFunc _ ps a b,r=>ps.toList++kf a (kf b r)
 |_,r=>r
def rW (W:List Tmp) (t:ca):ca:=⟨t.ps,t.sl,W,t.bx,t.g,t.XH⟩
def rX (W:List Tmp):List (XK × ca)→List (XK × ca)
 |[]=>[]
 |(k,t) :: l=>(k,rW W t) :: rX W l
def Nt:Code→Bool
 |.loop _=>true
 |_=>false
noncomputable def Y6 {X:Type} (f:FuncId) (p:Nat) (c:Code) (outs:List (XK × ca)) (K:Exit→St→Option X) (s:St):Option X:=
 (A3 C ih f p c (JT outs) A2 (ke s outs) s).bind fun o=>L0 s outs o K
noncomputable def S3 {X:Type} (f:FuncId) (p:Nat) (b:Code) (s1:St) (head:ca) (outs:List (XK × ca)) (K:Exit→St→Option X):Option X:=
 (head.dec s1 s1).bind fun v0=>(aB (fun v=>ih f (2 * p) b (head.ps.T ⊕ JT outs) A2 (xQ s1 head outs) (head.st s1 v)) C.N v0).bind fun o=>L0 s1 outs o K
def Nu (s:St) (head:ca) (outs:List (XK × ca)) (k:head.ps.T→Option (JT outs)):Exit→St→Option (JT outs)
 |.normal,s'=>(head.dec s s').bind k
 |e,s'=>ke s outs e s'
noncomputable def Nv {X:Type} (f:FuncId) (p:Nat) (b:Code) (s1:St) (head:ca) (outs:List (XK × ca)) (K:Exit→St→Option X):Option X:=
 (head.dec s1 s1).bind fun v0=>(fq (fun k v=>ih f (2 * p) b (JT outs) A2 (Nu s1 head outs k) (head.st s1 v)) C.N v0).bind fun o=>L0 s1 outs o K
def Nw {X:Type} (s:St) (head:ca) (K:Exit→St→Option X) (k:head.ps.T→Option X):Exit→St→Option X
 |.normal,s'=>(head.dec s s').bind k
 |e,s'=>K e s'
noncomputable def Nx {X:Type} (f:FuncId) (p:Nat) (b:Code) (s1:St) (head:ca) (K:Exit→St→Option X):Option X:=
 (head.dec s1 s1).bind fun v0=>fq (fun k v=>ih f (2 * p) b X A2 (Nw s1 head K k) (head.st s1 v)) C.N v0
def Ny (s:St) (head:ca) (outs:List (XK × ca)) (t:Tmp) (sz:Nat) (e:TypeId):Exit→St→Option (head.ps.T ⊕ JT outs)
 |.normal,s'=>match vh s' t sz e with
  |some (c,s2)=>bif c then (head.dec s s2).bind fun v=>some (.inl v) else none
  |none=>none
 |x,s'=>(ke s outs x s').bind fun o=>some (.inr o)
noncomputable def Im {X:Type} (f:FuncId) (p:Nat) (b:Code) (s1:St) (head:ca) (outs:List (XK × ca)) (t:Tmp) (sz:Nat) (e:TypeId) (K:Exit→St→Option X):Option X:=
 (head.dec s1 s1).bind fun v0=>(aB (fun v=>match xP (head.st s1 v) t sz e with
  |some s2=>ih f (2 * p) b (head.ps.T ⊕ JT outs) A2 (Ny s1 head outs t sz e) s2
  |none=>none) C.N v0).bind fun o=>L0 s1 outs o K
def Nz {X:Type} (gq:Option X→Option X→Option X) (f:FuncId) (K:Exit→St→Option X):List Bool→Nat→Code→St→Option X
 |[],_,_,s=>K .normal s
 |true :: k,q,.seq x y,s=>ih f (2 * q) x X gq (CU (Nz gq f K k (2 * q+1) y) K) s
 |false :: k,q,.seq x _,s=>Nz gq f K k (2 * q) x s
 |_ :: _,_,_,_=>none
def Qb {X:Type} (gq:Option X→Option X→Option X) (f:FuncId):List Bool→Nat→Code→(Exit→St→Option X)→St→Option X
 |[],q,c,K,s=>ih f q c X gq K s
 |true :: k,q,.seq _ y,K,s=>Qb gq f k (2 * q+1) y K s
 |false :: k,q,.seq x y,K,s=>Qb gq f k (2 * q) x (CU (ih f (2 * q+1) y X gq K) K) s
 |_ :: _,_,_,_,_=>none
noncomputable def Y7 {X:Type} (f:FuncId) (p:Nat) (b:Code) (k:List Bool) (s1:St) (head:ca) (outs:List (XK × ca)) (K:Exit→St→Option X):Option X:=
 ((Nz ih A2 f (xQ s1 head outs) k (2 * p) b s1).bind fun r0=>
  aas (fun v0=>aB (fun v=>Qb ih A2 f k (2 * p) b (CU (Nz ih A2 f (xQ s1 head outs) k (2 * p) b) (xQ s1 head outs)) (head.st s1 v)) C.N v0) (fun x=>some x) r0).bind fun o=>L0 s1 outs o K
noncomputable def A4 (f:FuncId) (p:Nat) (c:Code) (X:Type) (gq:Option X→Option X→Option X) (K:Exit→St→Option X) (s:St):Option X:=
 match C.Eb f p with
 |none=>A3 C ih f p c X gq K s
 |some ct=>match Nq s.G.length ct with
  |.join outs=>bif Nt c then none else Y6 C ih f p c (rX (kf c []) outs) K s
  |.loop gh head outs=>match c with
   |.loop b=>match ij gh s with
    |some s1=>S3 C ih f p b s1 (rW (kf b []) head) (rX (kf b []) outs) K
    |none=>none
   |_=>none
  |.rot k gh head outs=>match c with
   |.loop b=>match ij gh s with
    |some s1=>Y7 C ih f p b k s1 (rW (kf b []) head) (rX (kf b []) outs) K
    |none=>none
   |_=>none
  |.fq gh head outs=>match c with
   |.loop b=>match ij gh s with
    |some s1=>Nv C ih f p b s1 (rW (kf b []) head) (rX (kf b []) outs) K
    |none=>none
   |_=>none
  |.S2 gh head=>match c with
   |.loop b=>match ij gh s with
    |some s1=>Nx C ih f p b s1 (rW (kf b []) head) K
    |none=>none
   |_=>none
  |.Np t sz e head outs=>match c with
   |.loop b=>match vh s t sz e with
    |some (cc,s1)=>bif cc then Im C ih f p b s1 (rW (kf b []) head) (rX (kf b []) outs) t sz e K else none
    |none=>none
   |_=>none
  |.alt _ _ _=>none
end
noncomputable def ev (C:jT):Nat→XM:=Nat.rec (fun _ _ _ _ _ _ _=>none) (fun _ ih=>A4 C ih)
end Go.Am
namespace Go.Am
open Go
section ext
variable {E:Env} {f:FuncId} {s s':St} {o:Oper}
theorem aK.put (s:St) (d:Option Tmp) (x:SV):aK s (s.put d x):=by
 cases d with
 |none=>exact aK.refl s
 |some d=>
  simp only [St.put];split
  ·exact ⟨⟨[_],rfl⟩,⟨[],rfl⟩,rfl⟩
  ·exact aK.refl s
theorem aK.bq (s:St) (G:List GO):aK s (s.bq G):=⟨⟨[],rfl⟩,⟨[],rfl⟩,rfl⟩
theorem aK.eF (s:St) (o:GO):aK s (s.eF o):=⟨⟨[],rfl⟩,⟨[],rfl⟩,rfl⟩
theorem aK.xi (s:St) (d:Nat) (cs:List AV):aK s (s.xi d cs):=⟨⟨[],rfl⟩,⟨[_],rfl⟩,rfl⟩
theorem aK.kill (s:St) (d:Nat):aK s (s.kill d):=⟨⟨[_],rfl⟩,⟨[],rfl⟩,rfl⟩
theorem Ld {c:Bool} {s':St} (h:iV E f s o=some (c,s')):aK s s':=by
 unfold iV at h
 repeat' (split at h)
 all_goals (first|(cases h; done) | skip)
 all_goals (injection h with h; injection h with _ h; subst h; exact (aK.bq _ _).trans (aK.put _ _ _))
theorem Io {t:TypeId} {p x:SV} {c:Bool} {s':St} (h:fQ E s t p x=some (c,s')):aK s s':=by
 have store:∀ {t:TypeId} {p x:SV} {s':St},iQ E s t p x=some s'→aK s s':=by
  intro t p x s' h;unfold iQ at h
  repeat' (split at h)
  all_goals (first|(cases h; done) | skip)
  all_goals (injection h with h; subst h)
  ·exact aK.xi _ _ _
  ·exact aK.bq _ _
 unfold fQ at h
 repeat' (split at h)
 all_goals (first|(cases h; done) | skip)
 all_goals (injection h with h; injection h with _ h; subst h)
 all_goals (first|exact aK.bq _ _ | exact store (by assumption))
theorem Ip {t:TypeId} {p x:SV} {c:Bool} {s':St} (h:lD E s t p x=some (c,s')):aK s s':=by
 unfold lD at h;split at h
 ·rename_i hs;injection h with h; injection h with _ h;subst h;exact (aK.bq s (tA s p x).2.2).trans (Io (s:=s.bq (tA s p x).2.2) hs)
 ·cases h
theorem Iq {c:Bool} (h:ao E f s o=some (c,s')):aK s s':=by
 have alloc:∀ {el:TypeId} {cs:List AV} {c:Bool} {s':St},gv E f s o.dst el cs=some (c,s')→aK s s':=by
  intro el cs c s' h;unfold gv at h
  repeat' (split at h)
  all_goals (first|(cases h; done) | skip)
  ·injection h with h; injection h with _ h; subst h; exact (aK.eF _ _).trans (aK.put _ _ _)
  ·injection h with h; injection h with _ h; subst h; exact ((aK.kill _ _).trans (aK.xi _ _ _)).trans (aK.put _ _ _)
 have store:∀ {t:TypeId} {p x:SV} {s':St},iQ E s t p x=some s'→aK s s':=by
  intro t p x s' h;unfold iQ at h
  repeat' (split at h)
  all_goals (first|(cases h; done) | skip)
  all_goals (injection h with h; subst h)
  ·exact aK.xi _ _ _
  ·exact aK.bq _ _
 have UB:∀ {t:TypeId} {p x:SV} {c:Bool} {s':St},fQ E s t p x=some (c,s')→aK s s':=by
  intro t p x c s' h;unfold fQ at h
  repeat' (split at h)
  all_goals (first|(cases h; done) | skip)
  all_goals (injection h with h; injection h with _ h; subst h)
  all_goals (first|exact aK.bq _ _ | exact store (by assumption))
 have blt:∀ {b:Builtin} {l:List AV} {tys:List TypeId} {c:Bool} {s':St},cu E s o.dst b l tys=some (c,s')→aK s s':=by
  intro b l tys c s' h;unfold cu at h
  repeat' (split at h)
  all_goals (first|(cases h; done) | skip)
  all_goals (injection h with h; injection h with _ h; subst h)
  all_goals (first|exact aK.put _ _ _ | exact (aK.bq _ _).trans (aK.put _ _ _) | exact aK.bq _ _)
 have update:∀ {t:TypeId} {m k x:SV} {s':St},gw E s t m k x=some s'→aK s s':=by
  intro t m k x s' h;unfold gw at h
  repeat' (split at h)
  all_goals (first|(cases h; done) | skip)
  all_goals (injection h with h; subst h; exact aK.bq _ _)
 have next:∀ {x:SV} {s':St},nY s o.dst x=some s'→aK s s':=by
  intro x s' h;unfold nY at h;split at h
  ·split at h
   ·rename_i l pos hg;cases hb:Nat.blt pos l.length <;> rw [hb] at h <;> simp only [cond_true,cond_false] at h <;> cases h
    ·exact aK.put _ _ _
    ·exact (aK.bq _ _).trans (aK.put _ _ _)
   ·cases h
  ·cases h
 have HH:∀ {t:TypeId} {m k:SV} {c:Bool} {v:AV} {s':St},iC E s t m k=some (c,v,s')→aK s s':=by
  intro t m k c v s' h;unfold iC at h
  repeat' (split at h)
  all_goals (first|(cases h; done) | skip)
  all_goals (injection h with h; injection h with _ h; injection h with _ h; subst h; exact aK.bq _ _)
 have HI:∀ {m st x:SV} {c:Bool} {s':St},fy s m st x=some (c,s')→aK s s':=by
  intro m st x c s' h;unfold fy at h
  repeat' (split at h)
  all_goals (first|(cases h; done) | skip)
  all_goals (injection h with h; injection h with _ h; subst h; exact aK.bq _ _)
 unfold ao pR at h
 repeat' (split at h)
 all_goals (first|(cases h; done) | exact alloc h | exact blt h | (rename_i hf; cases h; exact Ld hf) | skip)
 all_goals (injection h with h; injection h with _ h; subst h)
 all_goals (first|exact aK.put _ _ _ | exact (aK.eF _ _).trans (aK.put _ _ _) | exact (aK.bq _ _).trans (aK.put _ _ _) | skip)
 all_goals (first|exact Ip (by assumption) | exact update (by assumption) | exact (HH (by assumption)).trans (aK.put _ _ _) | exact HI (by assumption) | exact next (by assumption))
theorem cZ.hJ {g:FuncId} {args S4:List AV} {G:List GO} {Q:AV→List GO→Prop} (hw:dv args S4) (h:cZ E g S4 G Q):cZ E g args G Q:=
 ⟨h.1,fun R w cs hg hl=>h.2 R w cs hg (hw.rel hl)⟩
theorem FV {K:St→Prop} (h:ml E f o K s):ml E f o (fun s'=>K s'∧aK s s') s:=by
 unfold ml at *;split
 ·rename_i x args tys ho;rw [ho] at h;simp only at h;split at h
  ·exact h.mono fun r G' hk=>⟨hk,(aK.bq _ _).trans (aK.put _ _ _)⟩
  ·exact h.mono fun r G' hk=>⟨hk,(aK.bq _ _).trans (aK.put _ _ _)⟩
  ·exact h
 ·rename_i ho;rw [ho] at h;exact h
 ·rename_i nc nd;split at h
  ·rename_i ho;exact absurd ho (nc _ _ _)
  ·exact h.elim
  ·split at h
   ·rename_i c s' hs;obtain ⟨hc,hk⟩:=h.out;exact eO.mk hc ⟨hk,Iq hs⟩
   ·exact h.elim
theorem ol {K:St→Prop} {ops:List Oper} (h:cK E f ops o K s):cK E f ops o (fun s'=>K s'∧aK s s') s:=by
 unfold cK at *;split
 ·rename_i hg;rw [hg] at h;exact FV h
 ·rename_i j want hg;rw [hg] at h;simp only at h;split
  ·rename_i hd;rw [hd] at h;exact h
  ·rename_i d hd;rw [hd] at h;simp only at h;split
   ·rename_i b hb;rw [hb] at h;simp only at h;refine ⟨fun e=>?_,fun e=>⟨h.2 e,(aK.put _ _ _).trans (aK.put _ _ _)⟩⟩;exact wK (FV (h.1 e)) fun s' hh=>⟨hh.1,(aK.put _ _ _).trans hh.2⟩
   ·rename_i hb;rw [hb] at h;exact ⟨h,aK.put _ _ _⟩
   ·rename_i hb kX;split at h
    ·rename_i b Jj;exact absurd Jj (hb b)
    ·rename_i Jj;exact absurd Jj kX
    ·exact h
theorem B4 {K K':St→Prop} {ops:List Oper} (h:ik E f ops o K s) (hK:∀ s,K s→K' s):ik E f ops o K' s:=by
 unfold ik at *;split
 ·rename_i s' h1 h2;rw [h1,h2] at h;exact hK _ h
 ·rename_i hn;split at h
  ·rename_i s' h1 h2;exact absurd h2 (hn s' h1)
  ·exact cL h hK
theorem yz {s':St} (h:kW E f s o=some s'):aK s s':=by
 unfold kW at h
 repeat' (split at h)
 all_goals (first|(cases h; done) | skip)
 all_goals (injection h with h; subst h; exact (aK.eF _ _).trans (aK.put _ _ _))
theorem Ef {K:St→Prop} {ops:List Oper} (h:ik E f ops o K s):ik E f ops o (fun s'=>K s'∧aK s s') s:=by
 unfold ik at *;split
 ·rename_i s' h1 h2;rw [h1,h2] at h;exact ⟨h,yz h2⟩
 ·rename_i hn;split at h
  ·rename_i s' h1 h2;exact absurd h2 (hn s' h1)
  ·exact ol h
theorem oP {K K':St→Prop} {ops:List Oper} (h:gE E f ops o K s) (hK:∀ s,K s→K' s):gE E f ops o K' s:=by
 unfold gE at *;split at h
 ·obtain ⟨h1,h2⟩:=h.out;exact eO.mk h1 (hK _ h2)
 ·obtain ⟨h1,h2,h3⟩:=h.out;exact eO.mk h1 ⟨fun e=>hK _ (h2 e),fun i hi=>let ⟨k1,k2⟩:=(h3 i hi).out; eO.mk k1 (hK _ k2)⟩
 ·exact B4 h hK
theorem Ir {c:Bool} {s':St} (h:tD E f s o=some (c,s')):aK s s':=by
 unfold tD at h
 repeat' (split at h)
 all_goals (first|(cases h; done) | skip)
 all_goals (injection h with h; injection h with _ h; subst h; exact (aK.bq _ _).trans (aK.put _ _ _))
theorem NA {c:Bool} {s':St} (h:GY E f s o=some (c,s')):aK s s':=by
 unfold GY at h
 repeat' (split at h)
 all_goals (first|(cases h; done) | skip)
 all_goals (injection h with h; injection h with _ h; subst h; exact (aK.bq _ _).trans (aK.put _ _ _))
theorem Le {c:Bool} {s':St} (h:xm E f s o=some (c,s')):aK s s':=by
 unfold xm at h;split at h
 ·rename_i r hr;cases h;exact NA hr
 ·exact Ir h
theorem Is {c:Bool} {s0:St} {left:List Nat} {g:Nat→Bool × St} (h:vY E s o=some (c,s0,left,g)):aK s s0∧∀ i,aK s (g i).2:=by
 unfold vY at h;split at h
 ·unfold Cf at h;split at h
  ·split at h
   ·split at h
    ·cases h;exact ⟨aK.put _ _ _,fun i=>(aK.bq _ _).trans (aK.put _ _ _)⟩
    ·cases h
   ·cases h
  ·cases h
 ·cases h
theorem vj {K:St→Prop} {ops:List Oper} (h:gE E f ops o K s):gE E f ops o (fun s'=>K s'∧aK s s') s:=by
 unfold gE at *;split at h
 ·rename_i hb;obtain ⟨h1,h2⟩:=h.out;exact eO.mk h1 ⟨h2,Le hb⟩
 ·rename_i hb;obtain ⟨h1,h2,h3⟩:=h.out;obtain ⟨k1,k2⟩:=Is hb;exact eO.mk h1 ⟨fun e=>⟨h2 e,k1⟩,fun i hi=>let ⟨q1,q2⟩:=(h3 i hi).out; eO.mk q1 ⟨q2,k2 i⟩⟩
 ·exact Ef h
theorem oQ {K K':St→Prop} {ops:List Oper} (h:gF E f ops o K s) (hK:∀ s,K s→K' s):gF E f ops o K' s:=by
 unfold gF at *;split at h
 ·exact ⟨h.1,oP h.2 hK⟩
 ·exact oP h hK
theorem jD {cut wk:Bool}:∀ {l:List Operand} {s s':St} {c:Bool},jg cut wk l s=(c,s')→aK s s'
 |[],s,s',c,h=>by
  simp only [jg] at h;cases h;exact aK.refl _
 |.tmp t :: l,s,s',c,h=>by
  unfold jg at h;split at h
  ·rename_i c1 s1 h1;cases h2:jg cut wk l s1 with
   |mk c2 s2=>
   rw [h2] at h;simp only [Prod.mk.injEq] at h;obtain ⟨_,rfl⟩:=h;exact (lf h1).trans (jD h2)
  ·exact jD h
 |.const _ :: l,s,s',c,h=>jD (l:=l) h
 |.global _ :: l,s,s',c,h=>jD (l:=l) h
 |.func _ :: l,s,s',c,h=>jD (l:=l) h
theorem NB {s s':St} {o:Oper} {c:Bool} (h:Kj E f s o=some (c,s')):aK s s':=by
 unfold Kj at h;split at h
 ·split at h
  ·injection h with h;exact jD h
  ·cases h
 ·cases h
theorem Eg {K:St→Prop} {ops:List Oper} (h:gF E f ops o K s):gF E f ops o (fun s'=>K s'∧aK s s') s:=by
 unfold gF at *;split at h
 ·rename_i c s' hz;exact ⟨h.1,oP (vj h.2) fun s2 h2=>⟨h2.1,(NB hz).trans h2.2⟩⟩
 ·exact vj h
theorem A5 {s s':St} {l:Loc} {sz:Nat} {e:TypeId} (h:wH s l sz e=some s'):aK s s':=by
 unfold wH at h;split at h
 ·cases h; exact aK.eF _ _
 unfold uS at h;cases HA:Nat.ble 196608 sz with
 |true=>rw [HA] at h; cases h; exact aK.eF _ _
 |false=>
 rw [HA] at h;cases l with
 |slot t=>
  simp only at h;split at h
  ·cases h; exact ⟨⟨[_],rfl⟩,⟨[],rfl⟩,rfl⟩
  ·cases h
 |box k i=>
  simp only at h;split at h
  ·split at h
   ·cases h; exact ⟨⟨[],rfl⟩,⟨[_],rfl⟩,rfl⟩
   ·cases h
  ·cases h
 |row id i=>
  simp only at h;split at h
  ·split at h
   ·cases h; exact ⟨⟨[],rfl⟩,⟨[],rfl⟩,rfl⟩
   ·cases h
  ·cases h
theorem mZ:∀ {l:List (Loc × Nat × TypeId)} {s s':St},ij l s=some s'→aK s s'
 |[],s,s',h=>by
  simp only [ij] at h;cases h;exact aK.refl _
 |(l,sz,e) :: r,s,s',h=>by
  unfold ij at h;split at h
  ·rename_i s1 h1;exact (A5 h1).trans (mZ h)
  ·cases h
theorem rY:∀ {l:List (Loc × Nat × TypeId)} {s:St},aK s (kS l s)
 |[],s=>aK.refl _
 |(l,sz,e) :: r,s=>by
  unfold kS;split
  ·rename_i s1 h1;exact (A5 h1).trans rY
  ·exact rY
theorem Lf {s s':St} {o:Oper} {c:Bool} (h:CD E f o s=some (c,s')):aK s s':=by
 unfold CD at h;split at h
 ·cases h; exact aK.refl _
 ·split at h
  ·exact lf h
  ·split at h
   ·cases h; exact aK.refl _
   ·split at h
    ·exact Fi h
    ·split at h
     ·cases h; exact rY
     ·cases h
theorem A6 {K K':St→Prop} {ops:List Oper} (hK:∀ s,K s→K' s):∀ {l:List Oper} {s:St},rF E f ops l K s→rF E f ops l K' s
 |[],s,h=>hK s h
 |_ :: _,_,h=>oQ h fun s' h'=>by
  unfold CF at *;split at h'
  ·exact ⟨h'.1,A6 hK h'.2⟩
  ·exact h'.elim
theorem A7 {K K':St→Prop} {ops:List Oper} (hK:∀ s,K s→K' s) {T:DT} {s:St} (h:vV E f ops T K s):vV E f ops T K' s:=
 gM (ops:=⟨ops⟩) hK T s h
theorem CX {K:St→Prop} {ops:List Oper}:∀ {l:List Oper} {s:St},rF E f ops l K s→rF E f ops l (fun s'=>K s'∧aK s s') s
 |[],s,h=>⟨h,aK.refl s⟩
 |o :: l,s,h=>by
  simp only [rF] at *;refine oQ (Eg h) fun s' hh=>?_
  obtain ⟨h1,h2⟩:=hh;unfold CF at *;split at h1
  ·rename_i c s2 hp;exact ⟨h1.1,A6 (fun s3 h3=>⟨h3.1,(h2.trans (Lf hp)).trans h3.2⟩) (CX h1.2)⟩
  ·exact h1.elim
theorem vk {K:St→Prop} {ops:List Oper}:∀ {T:DT} {s:St},vV E f ops T K s→vV E f ops T (fun s'=>K s'∧aK s s') s
 |.done,s,h=>⟨h,aK.refl s⟩
 |.stop,_,_=>trivial
 |.take j C T,s,h=>by
  unfold vV at h ⊢;split
  ·rename_i oj hj;rw [hj] at h;exact cL (ol h) fun s' hh=>A7 (fun s2 h2=>⟨h2.1,hh.2.trans h2.2⟩) (vk hh.1)
  ·rename_i hj;rw [hj] at h;exact h
 |.al j W T,s,h=>by
  unfold vV at h ⊢;split
  ·rename_i oj hj;rw [hj] at h;exact ⟨h.1,cL (ol h.2) fun s' hh=>A7 (fun s2 h2=>⟨h2.1,hh.2.trans h2.2⟩) (vk hh.1)⟩
  ·rename_i hj;rw [hj] at h;exact h
 |.br i re C T more,s,h=>by
  unfold vV at h ⊢;refine ⟨?_,vk h.2⟩;have h:=h.1;split
  ·rename_i oj hj;rw [hj] at h;exact cL (ol h) fun s' hh=>⟨hh.1.1,A7 (fun s2 h2=>⟨h2.1,hh.2.trans h2.2⟩) (vk hh.1.2)⟩
  ·rename_i hj;rw [hj] at h;exact h
end ext
def lO (E:Env) (c:Code) (Q:Exit→St→Prop) (s:St):Prop:=gl E c (fun e s'=>Q e s'∧aK s s') s
section sound
variable {E:Env} {f:FuncId} {s:St} {X:Type} {fz:Bool} {call:rU X} {oh:oO X} {gq:Option X→Option X→Option X} {x:X}
def ql (E:Env) (call:rU X):Prop:=∀ g args G K x,call g args G K=some x→cZ E g args G (fun r G'=>K r G'=some x)
def xS (E:Env) (oh:oO X):Prop:=∀ id args G K x,oh id args G K=some x→mR E id args G (fun b G'=>K b G'=some x)
theorem bj {α:Type} {c:Bool} {a:Option α} {x:α} (h:(bif c then a else none)=some x):c=true∧a=some x:=by
 cases c
 ·cases h
 ·exact ⟨rfl,h⟩
theorem bind_some {α β:Type} {a:Option α} {k:α→Option β} {x:β} (h:a.bind k=some x):∃ y,a=some y∧k y=some x:=by
 cases a with
 |none=>cases h
 |some y=>exact ⟨y,rfl,h⟩
theorem Lg {o:Oper} {n:Int} {len:Nat} {g:Nat→Oper} (h:Ec E s o=some (n,len,g)) {j:Nat} (hj:n=(j:Int)):ao E f s (g j)=ao E f s o:=by
 subst hj;unfold Ec at h;have TY:∀ k:IntKind,bG E s.ab (.const (.int k (j:Int)))=.v (.int k j):=fun k=>rfl
 split at h
 ·rename_i t x y ho;split at h
  ·rename_i k n i h1 h2;split at h
   ·injection h with h; injection h with e1 h; injection h with e2 h;subst h; subst e1;simp only [ao,ho,TY,h1]
   ·cases h
  ·cases h
 ·rename_i t x y ho;split at h
  ·rename_i k n i h1 h2;split at h
   ·split at h
    ·split at h
     ·cases h
     ·injection h with h; injection h with e1 h; injection h with e2 h;subst h; subst e1;simp only [ao,ho,TY,h1]
    ·injection h with h; injection h with e1 h; injection h with e2 h;subst h; subst e1;simp only [ao,ho,TY,h1]
   ·cases h
  ·cases h
 ·cases h
theorem tc {o:Oper} {n:Int} {len:Nat} {g:Nat→Oper} (hi:Ec E s o=some (n,len,g)) {K:St→Option X}:∀ (m j:Nat),yX E fz f g n K s m j=some x→∃ c s',ao E f s o=some (c,s')∧c=true∧K s'=some x
 |0,_,h=>by cases h
 |m+1,j,h=>by
  unfold yX at h;by_cases hn:n=(j:Int)
  ·rw [decide_eq_true hn,cond_true,Lg hi hn] at h;split at h
   ·rename_i c s' hs;obtain ⟨h1,h2⟩:=bj h;rw [dw] at h2;exact ⟨c,s',hs,h1,h2⟩
   ·cases h
  ·rw [decide_eq_false hn,cond_false] at h;exact tc hi m (j+1) h
theorem A8 {ops:List Oper} {o:Oper} (h:U2 E f ops o s=true):HQ E f ops o s:=by
 unfold U2 at h;split at h
 ·rename_i t m k ok d ho hd;split at h
  ·rename_i c v b hg hs;rw [aao] at h;obtain ⟨rfl,h⟩:=h;have hn:=vd hs;unfold HQ;rw [hg];simp only;have e:ao E f s o=some (true,s.put o.dst (.v (if ok then .bP [v,.bool b] else v))):=by simp only [ao,ho,hn]
   rw [hd] at e;rw [hd,e];refine ⟨rfl,?_⟩;unfold St.put;simp only;split
   ·rw [aD];exact CM h
   ·rfl
  ·exact CN h
 ·exact CN h
theorem td {ops:List Oper}:∀ {l:List Nat} {s:St},sE E f ops l s=true→CJ E f ops l s
 |[],_,_=>trivial
 |k :: l,s,h=>by
  unfold sE at h;unfold CJ;rw [aao] at h;refine ⟨?_,td h.2⟩;have h:=h.1;split at h
  ·rename_i hk
   first
    |exact A8 h
    |rw [hk]; exact A8 h
  ·rename_i hk
   first
    |trivial
    |rw [hk]; trivial
theorem wR (hc:ql E call) (hr:xS E oh) {o:Oper} {K:St→Option X} (h:U1 E fz call oh f o K s=some x):ml E f o (fun s=>K s=some x) s:=by
 unfold ml;split
 ·rename_i y args tys ho;unfold U1 at h;rw [ho] at h;simp only at h;split at h
  ·rename_i h1 h2;rw [h1,h2];refine (hc _ _ _ _ _ h).mono fun r G' hk=>?_
   rw [dw] at hk;exact hk
  ·rename_i h1 h2;rw [h1,h2];refine (hr _ _ _ _ _ h).mono fun r G' hk=>?_
   rw [dw] at hk;exact hk
  ·cases h
 ·rename_i ho;unfold U1 at h;rw [ho] at h;cases h
 ·rename_i nc nd;unfold U1 at h;split at h
  ·rename_i ho;exact absurd ho (nc _ _ _)
  ·cases h
  ·rename_i y ho;split at h
   ·rename_i b s1 s2 hs;have hn:=Ie hs;have e:ao E f s o=some (true,bif b then s1 else s2):=by simp only [ao,ho,hn]
    rw [e];refine eO.mk rfl ?_;rw [dw,dw] at h;cases b <;> exact h
   ·cases h
  ·rename_i t m k ok ho;split at h
   ·rename_i c v b hs;obtain ⟨h1,h2⟩:=bj h;subst h1;rw [dw] at h2;have hn:=vd hs;have e:ao E f s o=some (true,s.put o.dst (.v (if ok then .bP [v,.bool b] else v))):=by simp only [ao,ho,hn]
    rw [e];exact eO.mk rfl h2
   ·split at h
    ·rename_i c s' hs;obtain ⟨h1,h2⟩:=bj h;rw [dw] at h2;rw [hs];exact eO.mk h1 h2
    ·cases h
  ·rename_i t m k z ho;split at h
   ·rename_i c s' hd hs;obtain ⟨h1,h2⟩:=bj h;subst h1;rw [dw] at h2;have hn:=vf hs;have e:ao E f s o=some (true,s'):=by simp only [ao,ho,hd,hn]
    rw [e];exact eO.mk rfl h2
   ·cases h
  ·rename_i t m k z ho;split at h
   ·rename_i c s' hd hs;obtain ⟨h1,h2⟩:=bj h;subst h1;rw [dw] at h2;have hn:=vf hs;have e:ao E f s o=some (true,s'):=by simp only [ao,ho,hd,hn]
    rw [e];exact eO.mk rfl h2
   ·cases h
  ·rename_i args tys ho;split at h
   ·rename_i c s' hf;obtain ⟨h1,h2⟩:=bj h;rw [dw] at h2;have e:ao E f s o=some (c,s'):=by simp only [ao,ho,hf]
    rw [e];exact eO.mk h1 h2
   ·rename_i hf;split at h
    ·rename_i l hl;split at h
     ·rename_i b s1 c s2 hs;have Cu:b=false→c=true:=fun e=>by subst e; exact (bj (show (bif c then sD fz s2 K else none)=some x from h)).1
      have hn:=D8 hs Cu;have e:ao E f s o=some (true,bif b then s1 else s2):=by simp only [ao,ho,hf,hl,hn]
      rw [e];refine eO.mk rfl ?_;cases b with
      |true=>
       show K s1=some x;rw [← dw fz s1 K];exact h
      |false=>
       obtain ⟨h1,h2⟩:=bj (show (bif c then sD fz s2 K else none)=some x from h);rw [dw] at h2;exact h2
     ·split at h
      ·rename_i c s' hs;obtain ⟨h1,h2⟩:=bj h;rw [dw] at h2;rw [hs];exact eO.mk h1 h2
      ·cases h
    ·cases h
  ·rename_i args tys ho;split at h
   ·rename_i l hl;split at h
    ·rename_i c s' hs;obtain ⟨h1,h2⟩:=bj h;subst h1;rw [dw] at h2;have hn:=Ig hs;have hf:iV E f s o=none:=by
      cases hf:iV E f s o with
      |none=>rfl
      |some r=>
       obtain ⟨_,_,h2⟩:=qc hf;rw [ho] at h2;cases h2
     have e:ao E f s o=some (true,s'):=by simp only [ao,ho,hf,hl,hn]
     rw [e];exact eO.mk rfl h2
    ·split at h
     ·rename_i c s' hs;obtain ⟨h1,h2⟩:=bj h;rw [dw] at h2;rw [hs];exact eO.mk h1 h2
     ·cases h
   ·cases h
  ·split at h
   ·rename_i n len g hi;obtain ⟨c,s',hs,h1,h2⟩:=tc hi _ _ h;rw [hs];exact eO.mk h1 h2
   ·split at h
    ·rename_i c s' hs;obtain ⟨h1,h2⟩:=bj h;rw [dw] at h2;rw [hs];exact eO.mk h1 h2
    ·cases h
theorem mn (hc:ql E call) (hr:xS E oh) {ops:List Oper} {o:Oper} {K:St→Option X} (h:rV E fz call oh f ops o K s=some x):cK E f ops o (fun s=>K s=some x) s:=by
 unfold rV at h;unfold cK;split at h
 ·rename_i hg;rw [hg];exact wR hc hr h
 ·rename_i j want hg;rw [hg];simp only;split at h
  ·cases h
  ·rename_i d hd;rw [hd];simp only;split at h
   ·rename_i b hb;rw [hb];simp only;cases want with
    |true=>
     simp only at h;rw [dw,dw] at h;refine ⟨fun e=>?_,fun e=>?_⟩
     ·subst e;exact wR hc hr h
     ·have e:b=false:=by simpa using e
      subst e;exact h
    |false=>
     simp only at h;rw [dw,dw] at h;refine ⟨fun e=>?_,fun e=>?_⟩
     ·subst e;exact wR hc hr h
     ·have e:b=true:=by simpa using e
      subst e;exact h
   ·rename_i hb;rw [hb];rw [dw] at h;exact h
   ·cases h
theorem B5 (hc:ql E call) (hr:xS E oh) {ops:List Oper} {o:Oper} {K:St→Option X} (h:Ed E fz call oh f ops o K s=some x):ik E f ops o (fun s=>K s=some x) s:=by
 unfold Ed at h;unfold ik;split at h
 ·rename_i s' h1 h2;rw [h1,h2];rw [dw] at h;exact h
 ·rename_i hn;split
  ·rename_i s' h1 h2;exact absurd h2 (hn s' h1)
  ·exact mn hc hr h
theorem te (hc:ql E call) (hr:xS E oh) {ops:List Oper} {o:Oper} {K:St→Option X} (h:yY E fz call oh f ops o K s=some x):gE E f ops o (fun s=>K s=some x) s:=by
 unfold yY at h;unfold gE;split at h
 ·rename_i c s' h1 h2;rw [h1,h2];obtain ⟨q1,q2⟩:=bj h;rw [dw] at q2;exact eO.mk q1 q2
 ·rename_i c s0 left g h1 h2 h3;rw [h1,h2,h3];obtain ⟨q1,q2⟩:=bj h;refine eO.mk q1 ?_;cases left with
  |nil=>
   simp only [List.isEmpty_nil,cond_true,dw] at q2;exact ⟨fun _=>q2,fun i hi=>by simp at hi⟩
  |cons i0 l=>
   simp only [List.isEmpty_cons,cond_false] at q2;refine ⟨fun e=>(by cases e),fun i hi=>?_⟩;obtain ⟨r1,r2⟩:=bj (Lc q2 i hi);rw [dw] at r2;exact eO.mk r1 r2
 ·rename_i Kt hn2;split
  ·rename_i c s' h1 h2
   first
    |exact absurd h2 (Kt c s' h1)
    |exact absurd h2 (hn2 c s' h1)
  ·rename_i c s0 left g h1 h2 h3
   first
    |exact absurd h3 (hn2 c s0 left g h1 h2)
    |exact absurd h3 (Kt c s0 left g h1 h2)
  ·exact B5 hc hr h
theorem B6 (hc:ql E call) (hr:xS E oh) {ops:List Oper} {o:Oper} {K:St→Option X} (h:Ee E fz call oh f ops o K s=some x):gF E f ops o (fun s=>K s=some x) s:=by
 unfold Ee at h;unfold gF;split at h
 ·rename_i c s' hz;rw [hz];obtain ⟨h1,h2⟩:=bj h;exact ⟨h1,te hc hr h2⟩
 ·rename_i hz;rw [hz];exact te hc hr h
theorem A9 (hc:ql E call) (hr:xS E oh) {ops:List Oper}:∀ {l:List Oper} {K:St→Option X} {s:St},P8 E fz call oh f ops l K s=some x→rF E f ops l (fun s=>K s=some x) s
 |[],_,_,h=>h
 |o :: l,K,s,h=>by
  unfold P8 at h;unfold rF;refine oQ (B6 hc hr h) fun s' h'=>?_
  unfold CF;split at h'
  ·rename_i c s2 hp;rw [hp];cases c with
   |true=>exact ⟨rfl,A9 hc hr h'⟩
   |false=>cases h'
  ·cases h'
theorem ln (hc:ql E call) (hr:xS E oh) (hm:xR gq) {ops:List Oper}:∀ {T:DT} {K:St→Option X} {s:St} {x:X},oT E fz call oh gq f ops T K s=some x→vV E f ops T (fun s=>K s=some x) s
 |.done,_,_,_,h=>h
 |.stop,_,_,_,_=>trivial
 |.take j C T,K,s,x,h=>by
  unfold oT at h;unfold vV;split at h
  ·rename_i hk;rw [hk];exact cL (mn hc hr h) fun s' h'=>ln hc hr hm h'
  ·cases h
 |.al j W T,K,s,x,h=>by
  unfold oT at h;unfold vV;split at h
  ·rename_i hk;obtain ⟨h1,h2⟩:=bj h;rw [hk];exact ⟨h1,cL (mn hc hr h2) fun s' h'=>ln hc hr hm h'⟩
  ·cases h
 |.br i re C T more,K,s,x,h=>by
  have first:∀ {x:X},(match nth ops i with
   |some oi=>rV E fz call oh f ops oi (fun s'=>bif sE E f ops re s' then oT E fz call oh gq f ops T K s' else none) s
   |none=>none)=some x→(match nth ops i with
   |some oi=>cK E f ops oi (fun s'=>CJ E f ops re s'∧vV E f ops T (fun s=>K s=some x) s') s
   |none=>False):=by
   intro x h;split at h
   ·rename_i hk;refine cL (mn hc hr h) fun s' h'=>?_
    obtain ⟨h1,h2⟩:=bj h';exact ⟨td h1,ln hc hr hm h2⟩
   ·cases h
  unfold vV;cases more with
  |stop=>exact ⟨first h,trivial⟩
  |done=>obtain ⟨h1,h2⟩:=hm _ _ _ h; exact ⟨first h1,ln (T:=.done) hc hr hm h2⟩
  |take a b c=>obtain ⟨h1,h2⟩:=hm _ _ _ h; exact ⟨first h1,ln hc hr hm h2⟩
  |br a b c d e=>obtain ⟨h1,h2⟩:=hm _ _ _ h; exact ⟨first h1,ln hc hr hm h2⟩
  |al a b c=>obtain ⟨h1,h2⟩:=hm _ _ _ h; exact ⟨first h1,ln hc hr hm h2⟩
end sound
end Go.Am
namespace Go.Am
open Go
section
variable {C:jT} {ih:XM}
def wS (C:jT) (ih:XM):Prop:=∀ (f:FuncId) (p:Nat) (c:Code) (X:Type) (gq:Option X→Option X→Option X),xR gq→∀ (K:Exit→St→Option X) (s:St) (x:X),
 bR (C.D.dt f) c=true→ih f p c X gq K s=some x→lO C.D.toEnv c (fun e s'=>K e s'=some x) s
theorem oR {X:Type}:xR (A2 (X:=X)):=fun a b x h=>by
 unfold A2 at h;by_cases e:a=b
 ·rw [if_pos e] at h;exact ⟨h,e ▸ h⟩
 ·rw [if_neg e] at h;cases h
theorem om (hs:wS C ih) {X:Type} {gq:Option X→Option X→Option X} (hm:xR gq):ql C.D.toEnv (CV C ih gq):=fun g args G K x h=>by
 unfold CV at h;obtain ⟨dG,h⟩:=bj h;split at h
 ·rename_i fn hfn;split at h
  ·rename_i b hb;obtain ⟨hn,h⟩:=bj h;have fin:∀ {K':AV→List GO→Option X},ih g 1 b X gq (Ns C.D.toEnv fn K') (St.init fn.ntmps args G)=some x→cZ C.D.toEnv g args G (fun r G'=>K' r G'=some x):=by
    intro K' h;refine cZ.intro hfn hb (by simpa using hn) ((hs g 1 b X gq hm _ _ x (C.D.SM g fn b dG hfn hb) h).mono fun e s' hq=>?_);have hq:=hq.1;unfold Ns at hq;unfold SJ;cases e <;> first | (cases hq; done) | skip
    all_goals (simp only at hq ⊢)
    all_goals (split at hq <;> first | (cases hq; done) | skip)
    all_goals (rename_i hl; rw [hl]; simp only)
    all_goals (split at hq <;> first | (cases hq; done) | skip)
    all_goals (rename_i O9; rw [O9]; exact hq)
   cases S5:C.D.zg g 131072 with
   |true=>rw [S5] at h; exact cZ.frz (fin h)
   |false=>rw [S5] at h; exact fin h
  ·cases h
 ·cases h
theorem FW (Eh:∀ g e,C.Lb g=some e→aI C.D.toEnv g e) (hs:wS C ih) {X:Type} {gq:Option X→Option X→Option X} (hm:xR gq):ql C.D.toEnv (CW C ih gq):=fun g args G K x h=>by
 unfold CW at h;split at h
 ·rename_i e he;obtain ⟨a,ha,h⟩:=bind_some h;obtain ⟨y,hy,h⟩:=bind_some h;refine cZ.hJ (e.ps.tG ha).1 (((Eh g e he a y hy) G).mono fun r G' hr=>?_);obtain ⟨rfl,rfl⟩:=hr;exact h
 ·split at h
  ·rename_i e he;split at h
   ·rename_i c r G' hf;obtain ⟨hc,h⟩:=bj h;subst hc;refine (e.ok args G r G' hf).mono fun r' CQ hh=>?_
    obtain ⟨rfl,rfl⟩:=hh;exact h
   ·cases h
  ·split at h
   ·rename_i e he;obtain ⟨a,ha,h⟩:=bind_some h;obtain ⟨y,hy,h⟩:=bind_some h;refine cZ.hJ (e.ps.tG ha).1 ((e.ok a y hy G).mono fun r G' hr=>?_);obtain ⟨z,rfl,hr⟩:=hr;exact (FT e.outs z hr).trans h
   ·exact om hs hm g args G K x h
theorem FX {n:Nat}:∀ {l:List Tmp},P9 n l=true→∀ t∈l,t < n
 |[],_,t,ht=>by simp at ht
 |a :: l,h,t,ht=>by
  simp only [P9,aao] at h;rcases List.mem_cons.1 ht with rfl|ht
  ·exact jq h.1
  ·exact FX h.2 t ht
theorem It (hs:wS C ih) {X:Type} {gq:Option X→Option X→Option X} (hm:xR gq):xS C.D.toEnv (Qa C ih gq):=fun id args G K x h=>by
 unfold Qa at h;split at h
 ·rename_i p fp sl n ps tR bd d hG;obtain ⟨hc,h⟩:=bj h;simp only [aao] at hc;obtain ⟨⟨⟨h1,h2⟩,h3⟩,h4⟩:=hc;refine mR.intro hG (aax h1) (FX h2) ((hs _ _ tR X gq hm _ _ x h3 h).mono fun e s1 hq=>?_);have hq:=hq.1;unfold D3;cases e with
  |normal=>
   simp only at hq ⊢;split at hq
   ·rename_i p' fn XG n' YU P4 XJ d' hG1;rw [hG1];simp only;refine (hs _ _ bd X gq hm _ _ x h4 hq).mono fun e2 s2 qK=>?_
    have qK:Ik id K e2 s2=some x:=qK.1;unfold Ik at qK;unfold Ib;split at qK
    ·rename_i YM;rw [YM];cases e2 <;> first | (cases qK; done) | exact qK
    ·cases qK
   ·cases hq
  |_=>cases hq
 ·cases h
theorem lO.of {E:Env} {c:Code} {Q Q':Exit→St→Prop} {s:St} (h:lO E c Q s) (hq:∀ e s',Q e s'→aK s s'→Q' e s'):gl E c Q' s:=
 gl.mono h fun e s' hh=>hq e s' hh.1 hh.2
theorem sF {s s':St} {e:Exit}:∀ {outs:List (XK × ca)} {o:JT outs},ke s outs e s'=some o→∃ (t:ca) (v:t.ps.T),t.dec s s'=some v∧∀ (α:Type) (K:Exit→St→α),L0 s outs o K=K e (t.st s v)
 |[],o,h=>by cases h
 |[x],o,h=>by
  obtain ⟨h1,h2⟩:=bj (show (bif x.1.is e then x.2.dec s s' else none)=some o from h);exact ⟨x.2,o,h2,fun _ K=>by rw [XK.Jr h1]; rfl⟩
 |x :: y :: l,o,h=>by
  have h:(bif x.1.is e then (x.2.dec s s').bind fun v=>some (.inl v) else (ke s (y :: l) e s').bind fun o=>some (.inr o))=some o:=h;cases hx:x.1.is e with
  |true=>
   rw [hx] at h;obtain ⟨v,h1,h2⟩:=bind_some h;cases h2;exact ⟨x.2,v,h1,fun _ K=>by rw [XK.Jr hx]; rfl⟩
  |false=>
   rw [hx] at h;obtain ⟨v,h1,h2⟩:=bind_some h;cases h2;obtain ⟨t,u,k1,k2⟩:=sF h1;exact ⟨t,u,k1,fun α K=>k2 α K⟩
theorem ca.na (t:ca) (s:St) (v:t.ps.T):aK s (t.st s v):=by
 have h1:∀ (W:List Tmp) (b:bo),∃ pre,AK W b=pre++b:=fun W b=>by
  induction W with
  |nil=>exact ⟨[],rfl⟩
  |cons t W ih=>obtain ⟨p,hp⟩:=ih; exact ⟨.put t .none :: p,by simp [AK,hp]⟩
 have h2:∀ (ts:List Tmp) (l:List AV) (b:bo),∃ pre,rN ts l b=pre++b:=fun ts=>by
  induction ts with
  |nil=>intro l b; exact ⟨[],by cases l <;> rfl⟩
  |cons t ts ih=>
   intro l b;cases l with
   |nil=>exact ⟨[],rfl⟩
   |cons a l=>obtain ⟨p,hp⟩:=ih l b; exact ⟨.put t (.v a) :: p,by simp [rN,hp]⟩
 have h3:∀ (bx:List (Nat × Nat)) (l:List AV) (b:cX),∃ pre,xM bx l b=pre++b:=fun bx=>by
  induction bx with
  |nil=>intro l b; exact ⟨[],rfl⟩
  |cons x bx ih=>
   obtain ⟨k,n⟩:=x;intro l b;obtain ⟨p,hp⟩:=ih (l.drop n) b;exact ⟨(k,l.take n) :: p,by simp [xM,hp]⟩
 have h4:∀ (l:List (Tmp × Nat × Nat)) (b:bo),∃ pre,rO l b=pre++b:=fun l b=>by
  induction l with
  |nil=>exact ⟨[],rfl⟩
  |cons x l ih=>obtain ⟨t,k,o⟩:=x; obtain ⟨p,hp⟩:=ih; exact ⟨.put t (.lp k o) :: p,by simp [rO,hp]⟩
 obtain ⟨p1,e1⟩:=h1 t.W s.ab;obtain ⟨p2,e2⟩:=h2 t.sl (t.sR v) (AK t.W s.ab);obtain ⟨p3,e3⟩:=h3 t.bx ((t.sR v).drop t.sl.length) s.boxes;obtain ⟨p4,e4⟩:=h4 t.XH (p2++(p1++s.ab));exact ⟨⟨p4++(p2++p1),by rw [show (t.st s v).ab=rO t.XH (rN t.sl (t.sR v) (AK t.W s.ab)) from rfl,e2,e1,e4,List.append_assoc,List.append_assoc]⟩,⟨p3,e3⟩,rfl⟩
theorem gl.Y8 {E:Env} {c:Code} {s s1:St} {gh:List (Loc × Nat × TypeId)} {head:ca} {outs:List (XK × ca)} {rd:head.ps.T→Option (head.ps.T ⊕ JT outs)} {N:Nat} {v0:head.ps.T} {o:JT outs} {Q:Exit→St→Prop}
  (hg:Am.ij gh s=some s1) (h0:head.dec s1 s1=some v0) (hr:∀ v r,rd v=some r→lO E c (fun e s'=>xQ s1 head outs e s'=some r) (head.st s1 v))
  (hl:aB rd N v0=some o) (hQ:∀ (t:ca) (v:t.ps.T) (e:Exit),(∀ (α:Type) (K:Exit→St→α),L0 s1 outs o K=K e (t.st s1 v))→Q e (t.st s1 v)∧aK s (t.st s1 v)) :
  lO E (.loop c) Q s:=fun R0 w β a F Pc vT=>by
 obtain ⟨R,k1,k2,k3,_⟩:=kE Pc hg;have hf:cm R s1.ro F:=by rw [k3]; exact vT.mono k2.ext
 obtain ⟨i1,i2⟩:=ca.EF (aK.refl s1) k1 k1 (Step.refl R w β s1.boxes) h0;refine kF (fun m a' w'=>∃ v R' β',aB rd m v=some o∧aY E R' w' β' (head.st s1 v) a'∧Step R w β s1.boxes R' w' β' (head.st s1 v).boxes) ?_ ⟨v0,_,β,hl,i1,i2⟩;rintro m a' w' ⟨v,R',β',hm,ky,iP⟩;cases m with
 |zero=>cases hm
 |succ m=>
  obtain ⟨r,h1,h2⟩:=bind_some (show ((rd v).bind fun o=>aas (fun v'=>aB rd m v') (fun x=>some x) o)=some o from hm);refine wpIn_mono (hr v r h1 R' w' β' a' F ky (hf.mono iP.ext)) ?_;rintro e a2 w2 ⟨s2,R2,β2,⟨hK,hx⟩,zQ,B7,D4⟩;have EH:aK s1 s2:=(head.na s1 v).trans hx;have st2:=iP.trans B7;have out:∀ {u:JT outs},ke s1 outs e s2=some u→r=.inr u→Uy E R0 w β s (fun e s'=>Q e s'∧aK s s') e a2 w2:=fun {u} hu hru=>by
   subst hru;cases h2;obtain ⟨t,v',q1,q2⟩:=sF hu;obtain ⟨j1,j2⟩:=ca.EF EH k1 zQ st2 q1;exact ⟨t.st s1 v',_,β2,hQ t v' e q2,j1,k2.trans j2,k3⟩
  cases e with
  |normal=>
   obtain ⟨v',q1,q2⟩:=bind_some (show ((head.dec s1 s2).bind fun v=>some (.inl v))=some r from hK);cases q2;obtain ⟨j1,j2⟩:=ca.EF EH k1 zQ st2 q1;exact ⟨m,aap m,v',_,β2,h2,j1,j2⟩
  |exit i=>obtain ⟨u,q1,q2⟩:=bind_some (show ((ke s1 outs (.exit i) s2).bind fun o=>some (.inr o))=some r from hK); exact out q1 (aal q2).symm
  |ret=>obtain ⟨u,q1,q2⟩:=bind_some (show ((ke s1 outs .ret s2).bind fun o=>some (.inr o))=some r from hK); exact out q1 (aal q2).symm
  |goto i=>obtain ⟨u,q1,q2⟩:=bind_some (show ((ke s1 outs (.goto i) s2).bind fun o=>some (.inr o))=some r from hK); exact out q1 (aal q2).symm
  |panic i=>obtain ⟨u,q1,q2⟩:=bind_some (show ((ke s1 outs (.panic i) s2).bind fun o=>some (.inr o))=some r from hK); exact out q1 (aal q2).symm
  |outgrown=>obtain ⟨u,q1,q2⟩:=bind_some (show ((ke s1 outs .outgrown s2).bind fun o=>some (.inr o))=some r from hK); exact out q1 (aal q2).symm
theorem gl.U4 {E:Env} {c:Code} {s s1:St} {gh:List (Loc × Nat × TypeId)} {head:ca} {outs:List (XK × ca)} {rd:(head.ps.T→Option (JT outs))→head.ps.T→Option (JT outs)} {N:Nat} {v0:head.ps.T} {o:JT outs} {Q:Exit→St→Prop}
  (hg:Am.ij gh s=some s1) (h0:head.dec s1 s1=some v0) (hr:∀ k v u,rd k v=some u→lO E c (fun e s'=>Nu s1 head outs k e s'=some u) (head.st s1 v))
  (hl:fq rd N v0=some o) (hQ:∀ (t:ca) (v:t.ps.T) (e:Exit),(∀ (α:Type) (K:Exit→St→α),L0 s1 outs o K=K e (t.st s1 v))→Q e (t.st s1 v)∧aK s (t.st s1 v)) :
  lO E (.loop c) Q s:=fun R0 w β a F Pc vT=>by
 obtain ⟨R,k1,k2,k3,_⟩:=kE Pc hg;have hf:cm R s1.ro F:=by rw [k3]; exact vT.mono k2.ext
 obtain ⟨i1,i2⟩:=ca.EF (aK.refl s1) k1 k1 (Step.refl R w β s1.boxes) h0;refine kF (fun m a' w'=>∃ v R' β',fq rd m v=some o∧aY E R' w' β' (head.st s1 v) a'∧Step R w β s1.boxes R' w' β' (head.st s1 v).boxes) ?_ ⟨v0,_,β,hl,i1,i2⟩;rintro m a' w' ⟨v,R',β',hm,ky,iP⟩;cases m with
 |zero=>cases hm
 |succ m=>
  refine wpIn_mono (hr (fq rd m) v o hm R' w' β' a' F ky (hf.mono iP.ext)) ?_;rintro e a2 w2 ⟨s2,R2,β2,⟨hK,hx⟩,zQ,B7,D4⟩;have EH:aK s1 s2:=(head.na s1 v).trans hx;have st2:=iP.trans B7;have out:ke s1 outs e s2=some o→Uy E R0 w β s (fun e s'=>Q e s'∧aK s s') e a2 w2:=fun hu=>by
   obtain ⟨t,v',q1,q2⟩:=sF hu;obtain ⟨j1,j2⟩:=ca.EF EH k1 zQ st2 q1;exact ⟨t.st s1 v',_,β2,hQ t v' e q2,j1,k2.trans j2,k3⟩
  cases e with
  |normal=>
   obtain ⟨v',q1,q2⟩:=bind_some (show (head.dec s1 s2).bind (fq rd m)=some o from hK);obtain ⟨j1,j2⟩:=ca.EF EH k1 zQ st2 q1;exact ⟨m,aap m,v',_,β2,q2,j1,j2⟩
  |exit i=>exact out hK
  |ret=>exact out hK
  |goto i=>exact out hK
  |panic i=>exact out hK
  |outgrown=>exact out hK
theorem gl.U5 {E:Env} {X:Type} {c:Code} {s s1:St} {gh:List (Loc × Nat × TypeId)} {head:ca} {K:Exit→St→Option X} {rd:(head.ps.T→Option X)→head.ps.T→Option X} {N:Nat} {v0:head.ps.T} {o:X}
  (hg:Am.ij gh s=some s1) (h0:head.dec s1 s1=some v0) (hr:∀ k v u,rd k v=some u→lO E c (fun e s'=>Nw s1 head K k e s'=some u) (head.st s1 v))
  (hl:fq rd N v0=some o) :
  lO E (.loop c) (fun e s'=>K e s'=some o) s:=fun R0 w β a F Pc vT=>by
 obtain ⟨R,k1,k2,k3,_⟩:=kE Pc hg;have hf:cm R s1.ro F:=by rw [k3]; exact vT.mono k2.ext
 obtain ⟨i1,i2⟩:=ca.EF (aK.refl s1) k1 k1 (Step.refl R w β s1.boxes) h0;refine kF (fun m a' w'=>∃ v R' β',fq rd m v=some o∧aY E R' w' β' (head.st s1 v) a'∧Step R w β s1.boxes R' w' β' (head.st s1 v).boxes) ?_ ⟨v0,_,β,hl,i1,i2⟩;rintro m a' w' ⟨v,R',β',hm,ky,iP⟩;cases m with
 |zero=>cases hm
 |succ m=>
  refine wpIn_mono (hr (fq rd m) v o hm R' w' β' a' F ky (hf.mono iP.ext)) ?_;rintro e a2 w2 ⟨s2,R2,β2,⟨hK,hx⟩,zQ,B7,D4⟩;have EH:aK s1 s2:=(head.na s1 v).trans hx;have st2:=iP.trans B7;have out:K e s2=some o→Uy E R0 w β s (fun e s'=>K e s'=some o∧aK s s') e a2 w2:=fun hu=>
   ⟨s2,R2,β2,⟨hu,(mZ hg).trans EH⟩,zQ,k2.trans st2,D4.trans k3⟩
  cases e with
  |normal=>
   obtain ⟨v',q1,q2⟩:=bind_some (show (head.dec s1 s2).bind (fq rd m)=some o from hK);obtain ⟨j1,j2⟩:=ca.EF EH k1 zQ st2 q1;exact ⟨m,aap m,v',_,β2,q2,j1,j2⟩
  |exit i=>exact out hK
  |ret=>exact out hK
  |goto i=>exact out hK
  |panic i=>exact out hK
  |outgrown=>exact out hK
theorem xT {s s':St} {t:Tmp} {sz:Nat} {e:TypeId} {c:Bool} (h:vh s t sz e=some (c,s')):s'.G.length=s.G.length∧aK s s':=by
 unfold vh at h
 repeat' (split at h)
 all_goals (first|(cases h; done) | skip)
 injection h with h;injection h with _ h;subst h;exact ⟨cw _ _ _,⟨⟨[_],rfl⟩,⟨[],rfl⟩,rfl⟩⟩
theorem gl.Np {E:Env} {c:Code} {s s1:St} {tq:Tmp} {sz:Nat} {ty:TypeId} {head:ca} {outs:List (XK × ca)} {rd:head.ps.T→Option (head.ps.T ⊕ JT outs)} {N:Nat} {v0:head.ps.T} {o:JT outs} {Q:Exit→St→Prop}
  (hg:vh s tq sz ty=some (true,s1)) (h0:head.dec s1 s1=some v0) (hr:∀ v r,rd v=some r→∃ s2,xP (head.st s1 v) tq sz ty=some s2∧lO E c (fun e s'=>Ny s1 head outs tq sz ty e s'=some r) s2)
  (hl:aB rd N v0=some o) (hQ:∀ (t:ca) (v:t.ps.T) (e:Exit),(∀ (α:Type) (K:Exit→St→α),L0 s1 outs o K=K e (t.st s1 v))→Q e (t.st s1 v)∧aK s (t.st s1 v)) :
  lO E (.loop c) Q s:=fun R0 w β a F Pc vT=>by
 obtain ⟨R1,cv,ro,es,k1,k2,k3,k4,k5,k6,k7,k8,k9⟩:=CS Pc hg;have hnG:R0.obj.length=s1.G.length:=by rw [Pc.g.len,(xT hg).1]
 cases N with
 |zero=>cases hl
 |succ N0=>
 obtain ⟨r0,acO,_⟩:=bind_some (show ((rd v0).bind fun o=>aas (fun v'=>aB rd N0 v') (fun x=>some x) o)=some o from hl);obtain ⟨s20,Y9,_⟩:=hr v0 r0 acO;obtain ⟨R4,i1,i2,i3,i4,i5⟩:=CT k1 hnG (aK.refl s1) (Ext.refl R1 w) (Step.refl R0 w β s.boxes) k1 k2 k7 k8 k9 h0 Y9;refine kF (fun m a' w'=>∃ v R' β' s2,aB rd m v=some o∧xP (head.st s1 v) tq sz ty=some s2∧aY E R' w' β' s2 a'∧Step R0 w β s.boxes R' w' β' s2.boxes∧Ext R1 w R' w'∧s2.ro=s1.ro∧aK s1 s2) ?_ ⟨v0,R4,β,s20,hl,Y9,i1,i2,i3,i4,(head.na s1 v0).trans i5⟩;rintro m a' w' ⟨v,R',β',s2,hm,hs2,ky,iP,hE,ba,hx0⟩;cases m with
 |zero=>cases hm
 |succ m=>
  obtain ⟨r,h1,h2⟩:=bind_some (show ((rd v).bind fun o=>aas (fun v'=>aB rd m v') (fun x=>some x) o)=some o from hm);obtain ⟨s2',Za,hw⟩:=hr v r h1;rw [hs2] at Za;cases Za;refine wpIn_mono (hw R' w' β' a' F ky (by rw [ba,k3]; exact vT.mono iP.ext)) ?_;rintro e a2 w2 ⟨s3,R2,β2,⟨hK,hx⟩,zQ,B7,D4⟩;have EH:aK s1 s3:=hx0.trans hx;have st2:=iP.trans B7;have hE2:=hE.trans B7.ext;have out:∀ {u:JT outs},ke s1 outs e s3=some u→r=.inr u→Uy E R0 w β s (fun e s'=>Q e s'∧aK s s') e a2 w2:=fun {u} hu hru=>by
   subst hru;cases h2;obtain ⟨t,v',q1,q2⟩:=sF hu;obtain ⟨j1,j2,j3⟩:=ca.H8 EH k1 zQ hE2 q1;refine ⟨t.st s1 v',_,β2,hQ t v' e q2,j1,⟨⟨st2.ext.I,st2.ext.cell,fun id r hid=>?_,st2.ext.lp⟩,st2.os,st2.tape,st2.output,st2.size,st2.keep,fun b hb HM=>?_,fun b o hi hb rq=>st2.im b o hi hb rq⟩,k3⟩
   ·obtain ⟨r',g1,g2⟩:=st2.ext.obj id r hid;have:=aU hid;exact ⟨r',kd.2 ⟨by omega,g1⟩,g2⟩
   ·rcases HM with HM|⟨k,cs,hk,rfl⟩
    ·exact st2.own b hb (.inl (rP HM))
    ·obtain ⟨eZ,iZ⟩:=j3 k cs hk;exact st2.own _ hb (.inr ⟨k,eZ,iZ,rfl⟩)
  cases e with
  |normal=>
   have hK:(match vh s3 tq sz ty with
    |some (c,s2)=>bif c then (head.dec s1 s2).bind fun v=>some (.inl v) else none
    |none=>none:Option (head.ps.T ⊕ JT outs))=some r:=hK
   cases hu:vh s3 tq sz ty with
   |none=>rw [hu] at hK; cases hK
   |some x=>
    obtain ⟨cc,s4⟩:=x;rw [hu] at hK;cases cc with
    |false=>cases hK
    |true=>
     obtain ⟨v',q1,q2⟩:=bind_some (show ((head.dec s1 s4).bind fun v=>some (.inl v))=some r from hK);cases q2;obtain ⟨R3,cv3,ro3,es3,m1,m2,m3,m4,m5,m6,m7,m8,m9⟩:=CS zQ hu;have hs4:∃ s5,xP (head.st s1 v') tq sz ty=some s5:=by
      cases m with
      |zero=>cases h2
      |succ m0=>
       obtain ⟨r9,hr9,_⟩:=bind_some (show ((rd v').bind fun o=>aas (fun v'=>aB rd m0 v') (fun x=>some x) o)=some o from h2);obtain ⟨s9,hs9,_⟩:=hr v' r9 hr9;exact ⟨s9,hs9⟩
     obtain ⟨s5,hs5⟩:=hs4;obtain ⟨R5,j1,j2,j3,j4,j5⟩:=CT k1 hnG (EH.trans m4) (hE2.trans m2.ext) st2 m1 m2 m7 m8 m9 q1 hs5;exact ⟨m,aap m,v',R5,β2,s5,h2,hs5,j1,j2,j3,j4,(head.na s1 v').trans j5⟩
  |exit i=>obtain ⟨u,q1,q2⟩:=bind_some (show ((ke s1 outs (.exit i) s3).bind fun o=>some (.inr o))=some r from hK); exact out q1 (aal q2).symm
  |ret=>obtain ⟨u,q1,q2⟩:=bind_some (show ((ke s1 outs .ret s3).bind fun o=>some (.inr o))=some r from hK); exact out q1 (aal q2).symm
  |goto i=>obtain ⟨u,q1,q2⟩:=bind_some (show ((ke s1 outs (.goto i) s3).bind fun o=>some (.inr o))=some r from hK); exact out q1 (aal q2).symm
  |panic i=>obtain ⟨u,q1,q2⟩:=bind_some (show ((ke s1 outs (.panic i) s3).bind fun o=>some (.inr o))=some r from hK); exact out q1 (aal q2).symm
  |outgrown=>obtain ⟨u,q1,q2⟩:=bind_some (show ((ke s1 outs .outgrown s3).bind fun o=>some (.inr o))=some r from hK); exact out q1 (aal q2).symm
end
def tf (E:Env):List Bool→Code→(Exit→St→Prop)→St→Prop
 |[],_,Q,s=>Q .normal s
 |true :: k,.seq x y,Q,s=>lO E x (xC (tf E k y Q) Q) s
 |false :: k,.seq x _,Q,s=>tf E k x Q s
 |_ :: _,_,_,_=>False
def nf (E:Env):List Bool→Code→(Exit→St→Prop)→St→Prop
 |[],c,Q,s=>lO E c Q s
 |true :: k,.seq _ y,Q,s=>nf E k y Q s
 |false :: k,.seq x y,Q,s=>nf E k x (xC (lO E y Q) Q) s
 |_ :: _,_,_,_=>False
def Jy (F:Fence) (P:Program):List Bool→Code→(Exit→Act→World→Prop)→Act→World→Prop
 |[],c,Q,a,w=>c.wpIn F 0 P Q a w
 |true :: k,.seq _ y,Q,a,w=>Jy F P k y Q a w
 |false :: k,.seq x y,Q,a,w=>Jy F P k x (Exit.then (fun a' w'=>y.wpIn F 0 P Q a' w') Q) a w
 |_ :: _,_,_,_,_=>False
section rot
variable {E:Env} {s1:St} {R:ai} {w:World} {β:Nat→Nat} {F:Fence}
def At (E:Env) (s1:St) (R:ai) (w:World) (β:Nat→Nat) (s:St) (a:Act) (w':World):Prop:=
 ∃ R' β',aK s1 s∧aY E R' w' β' s a∧Step R w β s1.boxes R' w' β' s.boxes∧s.ro=s1.ro
theorem lO.at {c:Code} {Q:Exit→St→Prop} {s:St} {a:Act} {w':World} {Φ:Exit→Act→World→Prop} (hf:cm R s1.ro F) (h:lO E c Q s) (qA:At E s1 R w β s a w') (hQ:∀ e s' a' w',Q e s'→At E s1 R w β s' a' w'→Φ e a' w'):c.wpIn F 0 E.P Φ a w':=by
 obtain ⟨R',β',hx,hr,iP,ba⟩:=qA;refine wpIn_mono (h R' w' β' a F hr (by rw [ba]; exact hf.mono iP.ext)) ?_;rintro e a2 w2 ⟨s2,R2,β2,⟨hq,EH⟩,zQ,B7,D4⟩;exact hQ e s2 a2 w2 hq ⟨R2,β2,hx.trans EH,zQ,iP.trans B7,D4.trans ba⟩
theorem nf.at (hf:cm R s1.ro F):∀ (k:List Bool) (c:Code) {Q:Exit→St→Prop} {s:St} {a:Act} {w':World} {Φ:Exit→Act→World→Prop},nf E k c Q s→At E s1 R w β s a w'→(∀ e s' a' w',Q e s'→At E s1 R w β s' a' w'→Φ e a' w')→Jy F E.P k c Φ a w'
 |[],c,Q,s,a,w',Φ,h,qA,hQ=>lO.at hf h qA hQ
 |true :: k,c,Q,s,a,w',Φ,h,qA,hQ=>by
  cases c with
  |seq x y=>exact nf.at hf k y h qA hQ
  |_=>exact h.elim
 |false :: k,c,Q,s,a,w',Φ,h,qA,hQ=>by
  cases c with
  |seq x y=>
   refine nf.at hf k x (Q:=xC (lO E y Q) Q) h qA fun e s' a' w' hq tW=>?_
   cases e with
   |normal=>exact lO.at hf hq tW hQ
   |_=>exact hQ _ s' a' w' hq tW
  |_=>exact h.elim
theorem tf.at (hf:cm R s1.ro F):∀ (k:List Bool) (c:Code) {Q:Exit→St→Prop} {s:St} {a:Act} {w':World} {Φ:Exit→Act→World→Prop},tf E k c Q s→At E s1 R w β s a w' →
  (∀ s' a' w',Q .normal s'→At E s1 R w β s' a' w'→Jy F E.P k c Φ a' w')→(∀ e s' a' w',e≠.normal→Q e s'→At E s1 R w β s' a' w'→Φ e a' w')→c.wpIn F 0 E.P Φ a w'
 |[],c,Q,s,a,w',Φ,h,qA,hS,hQ=>hS s a w' h qA
 |true :: k,c,Q,s,a,w',Φ,h,qA,hS,hQ=>by
  cases c with
  |seq x y=>
   refine wpIn_seq (lO.at hf (show lO E x (xC (tf E k y Q) Q) s from h) qA fun e s' a' w' hq tW=>?_);cases e with
   |normal=>exact tf.at hf k y hq tW hS hQ
   |exit i=>exact hQ _ s' a' w' (by simp) hq tW
   |ret=>exact hQ _ s' a' w' (by simp) hq tW
   |goto i=>exact hQ _ s' a' w' (by simp) hq tW
   |panic i=>exact hQ _ s' a' w' (by simp) hq tW
   |outgrown=>exact hQ _ s' a' w' (by simp) hq tW
  |_=>exact h.elim
 |false :: k,c,Q,s,a,w',Φ,h,qA,hS,hQ=>by
  cases c with
  |seq x y=>
   refine wpIn_seq (tf.at hf k x (Q:=Q) h qA hS fun e s' a' w' cq hq tW=>?_);cases e with
   |normal=>exact absurd rfl cq
   |exit i=>exact hQ _ s' a' w' cq hq tW
   |ret=>exact hQ _ s' a' w' cq hq tW
   |goto i=>exact hQ _ s' a' w' cq hq tW
   |panic i=>exact hQ _ s' a' w' cq hq tW
   |outgrown=>exact hQ _ s' a' w' cq hq tW
  |_=>exact h.elim
end rot
theorem gl.Qd {E:Env} {b:Code} {s s1:St} {gh:List (Loc × Nat × TypeId)} {head:ca} {outs:List (XK × ca)} {pre:St→Option (head.ps.T ⊕ JT outs)} {rd:head.ps.T→Option (head.ps.T ⊕ JT outs)} {N:Nat} {k:List Bool} {r0:head.ps.T ⊕ JT outs} {o:JT outs} {Q:Exit→St→Prop}
  (hg:Am.ij gh s=some s1) (h0:pre s1=some r0)
  (hp:∀ s2 r,pre s2=some r→tf E k b (fun e s'=>xQ s1 head outs e s'=some r) s2)
  (hr:∀ v r,rd v=some r→nf E k b (fun e s'=>CU pre (xQ s1 head outs) e s'=some r) (head.st s1 v))
  (hl:aas (fun v=>aB rd N v) (fun x=>some x) r0=some o) (hQ:∀ (t:ca) (v:t.ps.T) (e:Exit),(∀ (α:Type) (K:Exit→St→α),L0 s1 outs o K=K e (t.st s1 v))→Q e (t.st s1 v)∧aK s (t.st s1 v)) :
  lO E (.loop b) Q s:=fun R0 w β a F Pc vT=>by
 obtain ⟨R,k1,k2,k3,_⟩:=kE Pc hg;have hf:cm R s1.ro F:=by rw [k3]; exact vT.mono k2.ext
 refine kF (fun n a' w'=>∃ s2 r,pre s2=some r∧aas (fun v=>aB rd n v) (fun x=>some x) r=some o∧At E s1 R w β s2 a' w') ?_ ⟨s1,r0,h0,hl,R,β,aK.refl s1,k1,Step.refl _ _ _ _,rfl⟩;rintro n a' w' ⟨s2,r,P0,Zb,qA⟩
 -- a way out
 have out:∀ {e:Exit} {s3:St} {a3:Act} {w3:World} {r:head.ps.T ⊕ JT outs} {n:Nat},e≠.normal→xQ s1 head outs e s3=some r→aas (fun v=>aB rd n v) (fun x=>some x) r=some o→At E s1 R w β s3 a3 w3→Uy E R0 w β s (fun e s'=>Q e s'∧aK s s') e a3 w3:=fun {e s3 a3 w3 r n} cq hK Zb qA=>by
  obtain ⟨R3,β3,hx3,YK,U6,acQ⟩:=qA;have key:∀ {u:JT outs},ke s1 outs e s3=some u→r=.inr u→Uy E R0 w β s (fun e s'=>Q e s'∧aK s s') e a3 w3:=fun {u} hu hru=>by
   subst hru;obtain rfl:=aal Zb;obtain ⟨t,v',q1,q2⟩:=sF hu;obtain ⟨j1,j2⟩:=ca.EF hx3 k1 YK U6 q1;exact ⟨t.st s1 v',_,_,hQ t v' _ q2,j1,k2.trans j2,k3⟩
  cases e with
  |normal=>exact absurd rfl cq
  |exit i=>obtain ⟨u,q1,q2⟩:=bind_some (show ((ke s1 outs (.exit i) s3).bind fun o=>some (.inr o))=some r from hK); exact key q1 (aal q2).symm
  |ret=>obtain ⟨u,q1,q2⟩:=bind_some (show ((ke s1 outs .ret s3).bind fun o=>some (.inr o))=some r from hK); exact key q1 (aal q2).symm
  |goto i=>obtain ⟨u,q1,q2⟩:=bind_some (show ((ke s1 outs (.goto i) s3).bind fun o=>some (.inr o))=some r from hK); exact key q1 (aal q2).symm
  |panic i=>obtain ⟨u,q1,q2⟩:=bind_some (show ((ke s1 outs (.panic i) s3).bind fun o=>some (.inr o))=some r from hK); exact key q1 (aal q2).symm
  |outgrown=>obtain ⟨u,q1,q2⟩:=bind_some (show ((ke s1 outs .outgrown s3).bind fun o=>some (.inr o))=some r from hK); exact key q1 (aal q2).symm
 refine tf.at hf k b (hp s2 r P0) qA (fun s3 a3 w3 hK U7=>?_) (fun e s3 a3 w3 cq hK U7=>?_)
 ·obtain ⟨v,q1,q2⟩:=bind_some (show ((head.dec s1 s3).bind fun v=>some (.inl v))=some r from hK);obtain rfl:=aal q2;have uc:aB rd n v=some o:=Zb;cases n with
  |zero=>cases uc
  |succ n=>
   obtain ⟨r',h1,h2⟩:=bind_some (show ((rd v).bind fun o=>aas (fun v'=>aB rd n v') (fun x=>some x) o)=some o from uc);obtain ⟨R3,β3,hx3,YK,U6,acQ⟩:=U7;obtain ⟨j1,j2⟩:=ca.EF hx3 k1 YK U6 q1;refine nf.at hf k b (hr v r' h1) ⟨_,_,head.na s1 v,j1,j2,rfl⟩ fun e s4 a4 w4 XN Lh=>?_
   cases e with
   |normal=>exact ⟨n,aap n,s4,r',XN,h2,Lh⟩
   |exit i=>exact out (by simp) XN h2 Lh
   |ret=>exact out (by simp) XN h2 Lh
   |goto i=>exact out (by simp) XN h2 Lh
   |panic i=>exact out (by simp) XN h2 Lh
   |outgrown=>exact out (by simp) XN h2 Lh
 ·have:=out cq hK Zb U7;cases e with
  |normal=>exact absurd rfl cq
  |_=>exact this
theorem tX {C:jT} {ih:XM} (hs:wS C ih) {X:Type} {f:FuncId} {K:Exit→St→Option X}:∀ (k:List Bool) (q:Nat) (c:Code) (s:St) (x:X),bR (C.D.dt f) c=true→Nz ih A2 f K k q c s=some x→tf C.D.toEnv k c (fun e s'=>K e s'=some x) s
 |[],_,_,_,_,_,h=>h
 |true :: k,q,c,s,x,hd,h=>by
  cases c with
  |seq a b=>
   rw [bR,aao] at hd;refine (hs f _ a X A2 oR _ s x hd.1 h).of fun e s' hq hx=>?_
   cases e with
   |normal=>exact ⟨tX hs k (2 * q+1) b s' x hd.2 hq,hx⟩
   |_=>exact ⟨hq,hx⟩
  |_=>cases h
 |false :: k,q,c,s,x,hd,h=>by
  cases c with
  |seq a b=>
   rw [bR,aao] at hd;exact tX hs k (2 * q) a s x hd.1 h
  |_=>cases h
theorem nf.mono {E:Env}:∀ (k:List Bool) (c:Code) {Q Q':Exit→St→Prop} {s:St},(∀ e s',Q e s'→Q' e s')→nf E k c Q s→nf E k c Q' s
 |[],c,Q,Q',s,hQ,h=>gl.mono h fun e s' hh=>⟨hQ e s' hh.1,hh.2⟩
 |true :: k,c,Q,Q',s,hQ,h=>by
  cases c with
  |seq x y=>exact nf.mono k y hQ h
  |_=>exact h.elim
 |false :: k,c,Q,Q',s,hQ,h=>by
  cases c with
  |seq x y=>
   refine nf.mono k x (Q:=xC (lO E y Q) Q) (Q':=xC (lO E y Q') Q') (fun e s' hq=>?_) h;cases e with
   |normal=>exact gl.mono hq fun e s' hh=>⟨hQ e s' hh.1,hh.2⟩
   |_=>exact hQ _ s' hq
  |_=>exact h.elim
theorem tY {C:jT} {ih:XM} (hs:wS C ih) {X:Type} {f:FuncId}:∀ (k:List Bool) (q:Nat) (c:Code) (K:Exit→St→Option X) (s:St) (x:X),bR (C.D.dt f) c=true→Qb ih A2 f k q c K s=some x→nf C.D.toEnv k c (fun e s'=>K e s'=some x) s
 |[],_,c,K,s,x,hd,h=>hs f _ c X A2 oR K s x hd h
 |true :: k,q,c,K,s,x,hd,h=>by
  cases c with
  |seq a b=>
   rw [bR,aao] at hd;exact tY hs k (2 * q+1) b K s x hd.2 h
  |_=>cases h
 |false :: k,q,c,K,s,x,hd,h=>by
  cases c with
  |seq a b=>
   rw [bR,aao] at hd;refine nf.mono k a (fun e s' hq=>?_) (tY hs k (2 * q) a _ s x hd.1 h);cases e with
   |normal=>exact hs f _ b X A2 oR K s' x hd.2 hq
   |_=>exact hq
  |_=>cases h
theorem Ba {C:jT} (Eh:∀ g e,C.Lb g=some e→aI C.D.toEnv g e) (n:Nat):wS C (ev C n):=by
 induction n using Nat.strongRecOn with
 |_ n ihn=>
 cases n with
 |zero=>intro f p c X gq _ K s x _ h; cases h
 |succ n=>
  have hs:=ihn n (aap n);have plain:∀ (f:FuncId) (p:Nat) (c:Code) (X:Type) (gq:Option X→Option X→Option X),xR gq→∀ (K:Exit→St→Option X) (s:St) (x:X),((∃ b,c=.loop b)→C.Eb f p=none) →
    bR (C.D.dt f) c=true→A3 C (ev C n) f p c X gq K s=some x→lO C.D.toEnv c (fun e s'=>K e s'=some x) s:=by
   intro f p c X gq hm K s x iz hd h;have CP:=FW Eh hs hm;have Zc:=It hs hm;unfold A3 at h;cases c with
   |skip=>exact gl.skip ⟨h,aK.refl s⟩
   |label l=>exact gl.label ⟨h,aK.refl s⟩
   |exit id=>exact gl.exit ⟨h,aK.refl s⟩
   |ret=>exact gl.ret ⟨h,aK.refl s⟩
   |seq a b=>
    rw [bR,aao] at hd;refine gl.seq ((hs f _ a X gq hm _ s x hd.1 h).of fun e s' hq hx=>?_);cases e with
    |normal=>exact (hs f _ b X gq hm _ s' x hd.2 hq).of fun e s2 qK EH=>⟨qK,hx.trans EH⟩
    |_=>exact ⟨hq,hx⟩
   |cond co a b=>
    rw [bR,aao] at hd;simp only at h;split at h
    ·rename_i t hb;refine gl.cond hb (fun e=>?_) (fun e=>?_)
     ·subst e; exact hs f _ a X gq hm _ s x hd.1 h
     ·subst e; exact hs f _ b X gq hm _ s x hd.2 h
    ·cases h
   |block id c=>
    refine gl.block ((hs f _ c X gq hm _ s x hd h).of fun e s' hq hx=>?_);cases e with
    |exit iU=>
     simp only [Nr] at hq;refine ⟨fun e=>?_,fun e=>?_⟩
     ·subst e; rw [uv] at hq; exact ⟨hq,hx⟩
     ·rw [pS e] at hq; exact ⟨hq,hx⟩
    |_=>exact ⟨hq,hx⟩
   |scope c=>
    refine gl.scope ((hs f _ c X gq hm _ s x hd h).of fun e s' hq hx=>?_);cases e with
    |goto l=>cases hq
    |_=>exact ⟨hq,hx⟩
   |region id ops dr=>
    cases dr with
    |false=>exact gl.region (f:=f) (CX (A9 CP Zc h))
    |true=>
     simp only at h;rw [bR] at hd;split at h
     ·rename_i pl hT;rw [hT] at hd;exact gl.draw (f:=f) hd (vk (ln CP Zc hm h))
     ·cases h
   |loop b=>
    have S6:=iz ⟨b,rfl⟩;refine gl.loop (fun m s'=>m≤n+1∧ev C m f p (.loop b) X gq K s'=some x∧aK s s') ?_ (m:=n+1) ⟨Nat.le_refl _,?_,aK.refl s⟩
    ·rintro m s' ⟨Pv,hr,hx⟩;cases m with
     |zero=>cases hr
     |succ m=>
      have ky:A4 C (ev C m) f p (.loop b) X gq K s'=some x:=hr;unfold A4 at ky;rw [S6] at ky;refine (ihn m (by omega) f _ b X gq hm _ s' x hd ky).of fun e s2 hq EH=>?_
      cases e with
      |normal=>exact ⟨m,aap m,by omega,hq,hx.trans EH⟩
      |_=>exact ⟨hq,hx.trans EH⟩
    ·show A4 C (ev C n) f p (.loop b) X gq K s=some x;unfold A4;rw [S6];exact h
   |rangeFunc g ps tR bd=>
    simp only at h;split at h
    ·rename_i ba;split at h
     ·rename_i hf first cap hg
      refine gl.rangeFunc (4096 * p+f) ba hg ((CP _ _ _ _ _ h).mono fun r G' hq=>?_);unfold rfQ;split at hq
      ·rename_i busy pending fn sl nn pp aa bb dd done wN;rw [wN];simp only;obtain ⟨h1,h2⟩:=bj hq;refine ⟨by cases busy <;> cases done <;> simp_all,?_⟩;have PY:∀ (G:List GO) (m:List Nat),aK s ⟨s.ab,s.boxes,G,m,s.ro,s.n⟩:=fun _ _=>⟨⟨[],rfl⟩,⟨[],rfl⟩,rfl⟩
       split at h2
       ·rw [dw] at h2; exact ⟨h2,PY _ _⟩
       ·rw [dw] at h2; exact gl.ret ⟨h2,PY _ _⟩
       ·rw [dw] at h2; exact gl.exit ⟨h2,PY _ _⟩
       ·cases h2
      ·cases hq
     ·cases h
    ·rename_i id ba;split at h
     ·rename_i bu0 p0 fn0 sl0 n0 ps0 as0 bd0 d0 dn0 acR;split at h
      ·rename_i hf first cap hg
       refine gl.Ia (4096 * p+f) ba acR hg ((CP _ _ _ _ _ h).mono fun r G' hq=>?_);unfold UU;split at hq
       ·rename_i busy pending fn sl nn pp aa bb dd done wN;rw [wN];simp only;obtain ⟨h1,h2⟩:=bj hq;refine ⟨by cases busy <;> cases done <;> simp_all,?_⟩;have PY:∀ (G:List GO) (m:List Nat),aK s ⟨s.ab,s.boxes,G,m,s.ro,s.n⟩:=fun _ _=>⟨⟨[],rfl⟩,⟨[],rfl⟩,rfl⟩
        split at h2
        ·rw [dw] at h2; exact ⟨h2,PY _ _⟩
        ·rw [dw] at h2; exact gl.ret ⟨h2,PY _ _⟩
        ·rw [dw] at h2; exact gl.exit ⟨h2,PY _ _⟩
        ·cases h2
       ·cases hq
      ·cases h
     ·cases h
   |_=>cases h
  intro f p c X gq hm K s x hd h;change A4 C (ev C n) f p c X gq K s=some x at h;unfold A4 at h;split at h
  ·rename_i hc;exact plain f p c X gq hm K s x (fun _=>hc) hd h
  ·rename_i ct hct;split at h
   ·rename_i vl hc;generalize rX (kf c []) vl=outs at h;cases MM:Nt c with
    |true=>rw [MM] at h; cases h
    |false=>
    rw [MM] at h;obtain ⟨o,h1,h2⟩:=bind_some (show (A3 C (ev C n) f p c (JT outs) A2 (ke s outs) s).bind (fun o=>L0 s outs o K)=some x from h);have hp:=plain f p c (JT outs) A2 oR (ke s outs) s o (fun ⟨b,hb⟩=>by subst hb; cases MM) hd h1;refine gl.acH (s:=s) (Q':=fun e s'=>ke s outs e s'=some o) (gl.mono hp fun e s' hh=>⟨hh.2,hh.1⟩) fun e s' hq=>?_
    obtain ⟨t,v,q1,q2⟩:=sF hq;exact ⟨t,v,q1,(q2 _ K).symm.trans h2,t.na s v⟩
   ·rename_i gh vm vl hc;split at h
    ·rename_i b;split at h
     ·rename_i s1 hg;generalize rX (kf b []) vl=outs at h;generalize rW (kf b []) vm=head at h;unfold S3 at h;obtain ⟨v0,h0,h⟩:=bind_some h;obtain ⟨o,hl,h⟩:=bind_some h;refine gl.Y8 hg h0 (fun v r hr=>hs f _ b _ A2 oR _ _ r hd hr) hl fun t v e ia=>?_
      exact ⟨(ia _ K).symm.trans h,(mZ hg).trans (t.na s1 v)⟩
     ·cases h
    ·cases h
   ·rename_i k gh vm vl hc;split at h
    ·rename_i b;split at h
     ·rename_i s1 hg;generalize rX (kf b []) vl=outs at h;generalize rW (kf b []) vm=head at h;unfold Y7 at h;obtain ⟨o,hl,h⟩:=bind_some h;obtain ⟨r0,h0,hl⟩:=bind_some hl;refine gl.Qd hg h0 (fun s2 r hr=>tX hs k (2 * p) b s2 r hd hr) (fun v r hr=>tY hs k (2 * p) b _ _ r hd hr) hl fun t v e ia=>?_
      exact ⟨(ia _ K).symm.trans h,(mZ hg).trans (t.na s1 v)⟩
     ·cases h
    ·cases h
   ·rename_i gh vm vl hc;split at h
    ·rename_i b;split at h
     ·rename_i s1 hg;generalize rX (kf b []) vl=outs at h;generalize rW (kf b []) vm=head at h;unfold Nv at h;obtain ⟨v0,h0,h⟩:=bind_some h;obtain ⟨o,hl,h⟩:=bind_some h;refine gl.U4 hg h0 (fun k v u hu=>hs f _ b _ A2 oR _ _ u hd hu) hl fun t v e ia=>?_
      exact ⟨(ia _ K).symm.trans h,(mZ hg).trans (t.na s1 v)⟩
     ·cases h
    ·cases h
   ·rename_i gh vm hc;split at h
    ·rename_i b;split at h
     ·rename_i s1 hg;generalize rW (kf b []) vm=head at h;unfold Nx at h;obtain ⟨v0,h0,hl⟩:=bind_some h;exact gl.U5 hg h0 (fun k v u hu=>hs f _ b _ A2 oR _ _ u hd hu) hl
     ·cases h
    ·cases h
   ·rename_i tq sz ty vm vl hc;split at h
    ·rename_i b;split at h
     ·rename_i cc s1 hg;cases cc with
      |false=>cases h
      |true=>
      generalize rX (kf b []) vl=outs at h;generalize rW (kf b []) vm=head at h;have h:Im C (ev C n) f p b s1 head outs tq sz ty K=some x:=h;unfold Im at h;obtain ⟨v0,h0,h⟩:=bind_some h;obtain ⟨o,hl,h⟩:=bind_some h;refine gl.Np hg h0 (fun v r hr=>?_) hl fun t v e ia=>?_
      ·cases ba:xP (head.st s1 v) tq sz ty with
       |none=>rw [ba] at hr; cases hr
       |some s2=>
        rw [ba] at hr;exact ⟨s2,rfl,hs f _ b _ A2 oR _ _ r hd hr⟩
      ·exact ⟨(ia _ K).symm.trans h,(xT hg).2.trans (t.na s1 v)⟩
     ·cases h
    ·cases h
   ·cases h
end Go.Am
namespace Go.Am
open Go
noncomputable def jT.fn (C:jT) (n:Nat) (g:FuncId) (ps:aQ) (p:aP) (x:ps.T):Option p.T:=
 CV C (ev C n) A2 g (ps.enc x) [] (fun r _=>p.dec r)
theorem jT.dT {C:jT} (Eh:∀ g e,C.Lb g=some e→aI C.D.toEnv g e) {n:Nat} {g:FuncId} {ps:aQ} {p:aP} (h1:ps.under 0=true) (h2:p.under 0=true) :
  aI C.D.toEnv g ⟨ps,p,C.fn n g ps p⟩:=fun x y h=>by
 refine bJ.mono (bJ.of (p:=p) (Q:=fun z=>z=y) (ps.eg x h1) h2 ((om (Ba Eh n) oR g _ [] _ y h).mono fun r _ hr=>⟨y,hr,rfl⟩)) ?_;rintro r ⟨z,rfl,rfl⟩;rfl
noncomputable def jT.fnX (C:jT) (n:Nat) (g:FuncId) (ps:aQ) (outs:List RF) (x:ps.T):Option (XT outs):=
 CV C (ev C n) A2 g (ps.enc x) [] (fun r G=>K7 G r outs)
theorem jT.U8 {C:jT} (Eh:∀ g e,C.Lb g=some e→aI C.D.toEnv g e) {n:Nat} {g:FuncId} {ps:aQ} {outs:List RF} (h1:ps.under 0=true) (h2:outs.all RF.under=true) :
  ∀ x y,C.fnX n g ps outs x=some y→rS C.D.toEnv g (ps.enc x) outs (fun z=>z=y):=fun x y h=>
 rS.of (ps.eg x h1) (List.all_eq_true.1 h2) ((om (Ba Eh n) oR g _ [] _ y h).mono fun r G' hr=>⟨y,hr,rfl⟩)
theorem bJ.env {E E':Env} {g:FuncId} {args:List AV} {Q:AV→Prop} (hP:E.P=E'.P) (hg:E.dF=E'.dF) (h:bJ E g args Q) (uG:E.lo=E'.lo:=by rfl) (Zd:E.gx=E'.gx:=by rfl):bJ E' g args Q:=by
 have go:∀ {R:ai} {w:World} {x:Nat} {cs:List AV},oH E R w x cs↔oH E' R w x cs:=fun {R w x cs}=>by unfold oH; rw [Zd]
 have EF:∀ {R:ai} {w:World} {G:List GO},eY E R w G↔eY E' R w G:=fun {R w G}=>
  ⟨fun h=>⟨h.len,h.obj,h.inj,h.wf,fun g cs hh=>go.1 (h.dF g cs (by rw [hg]; exact hh)),by rw [← uG]; exact h.lo⟩,fun h=>⟨h.len,h.obj,h.inj,h.wf,fun g cs hh=>go.2 (h.dF g cs (by rw [← hg]; exact hh)),by rw [uG]; exact h.lo⟩⟩
 intro G;obtain ⟨h1,h2⟩:=h G;rw [hP] at h1 h2;refine ⟨h1,fun R w cs hr hl=>(h2 R w cs (EF.2 hr) hl).mono fun e w' he=>?_⟩;cases e with
 |returned c=>obtain ⟨r,G',R',k1,k2,k3,k4⟩:=he; exact ⟨r,G',R',k1,k2,EF.1 k3,k4⟩
 |panicked c=>exact he
 |outgrown=>exact he
theorem bJ.more {E E':Env} {g:FuncId} {args:List AV} {Q:AV→Prop} (hP:E.P=E'.P) (hg:∀ g cs,E.dF g=some cs→E'.dF g=some cs) (h:bJ E g args Q) (uG:E.lo=E'.lo:=by rfl) (Zd:E.gx=fun _=>false:=by rfl):bJ E' g args Q:=by
 intro G;obtain ⟨h1,h2⟩:=h G;rw [hP] at h1 h2;refine ⟨h1,fun R w cs hr hl=>(h2 R w cs ⟨hr.len,hr.obj,hr.inj,hr.wf,fun g cs hh=>⟨(hr.dF g cs (hg g cs hh)).1,fun hx=>by rw [Zd] at hx; cases hx⟩,by rw [uG]; exact hr.lo⟩ hl).mono fun e w' he=>?_⟩;cases e with
 |returned c=>
  obtain ⟨r,G',R',k1,k2,k3,k4⟩:=he;exact ⟨r,G',R',k1,k2,⟨k3.len,k3.obj,k3.inj,k3.wf,fun g cs hh=>(hr.dF g cs hh).mono k4.ext,by rw [← uG]; exact k3.lo⟩,k4⟩
 |panicked c=>exact he
 |outgrown=>exact he
def B8:List (Nat × bK)→FuncId→Option bK
 |[],_=>none
 |(a,e) :: l,g=>bif aav a g then some e else B8 l g
theorem gB {E:Env}:∀ {l:List (Nat × bK)},(∀ a e,(a,e)∈l→aI E a e)→∀ g e,B8 l g=some e→aI E g e
 |[],_,g,e,h=>by cases h
 |(a,x) :: l,hl,g,e,h=>by
  unfold B8 at h;cases hb:aav a g with
  |true=>
   rw [hb] at h;cases h;rw [← aax hb];exact hl a _ (by simp)
  |false=>
   rw [hb] at h;exact gB (fun a e hm=>hl a e (by simp [hm])) g e h
theorem EI {E:Env}:∀ g e,B8 [] g=some e→aI E g e:=fun _ _ h=>by cases h
theorem ks {E:Env} {a:Nat} {x:bK} {l:List (Nat × bK)} (hx:aI E a x) (hl:∀ g e,B8 l g=some e→aI E g e):∀ g e,B8 ((a,x) :: l) g=some e→aI E g e:=fun g e h=>by
 unfold B8 at h;cases hb:aav a g with
 |true=>
  rw [hb] at h;cases h;rw [← aax hb];exact hx
 |false=>
  rw [hb] at h;exact hl g e h
def S7:List (Nat × dY)→Nat→Option dY
 |[],_=>none
 |(a,c) :: l,p=>bif aav a p then some c else S7 l p
def S8:List (Nat × List (Nat × dY))→FuncId→Nat→Option dY
 |[],_,_=>none
 |(a,c) :: l,g,p=>bif aav a g then S7 c p else S8 l g p
def Jz:Option Unit→Option Unit→Option Unit
 |some _,some _=>some ()
 |_,_=>none
theorem Iu:xR Jz:=fun a b x h=>by
 cases a <;> cases b <;> first | (cases h; done) | exact ⟨rfl,rfl⟩
theorem dc {C:jT} (Eh:∀ g e,C.Lb g=some e→aI C.D.toEnv g e) {n:Nat} {g:FuncId} {args:List AV} {p:aP} {ok:p.T→Bool} (h1:aO 0 args=true) (h2:p.under 0=true)
  (h:CV C (ev C n) Jz g args [] (fun r _=>bif p.fits r&&ok (p.bw r) then some () else none)=some ()):bJ C.D.toEnv g args (fun r=>∃ y,r=p.enc y∧ok y=true):=
 bJ.of (p:=p) (Q:=fun y=>ok y=true) h1 h2 ((om (Ba Eh n) Iu g args [] _ () h).mono fun r _ hr=>by
  obtain ⟨k,_⟩:=bj hr;rw [aao] at k;exact ⟨p.bw r,by simp [aP.dec,k.1],k.2⟩)
end Go.Am
