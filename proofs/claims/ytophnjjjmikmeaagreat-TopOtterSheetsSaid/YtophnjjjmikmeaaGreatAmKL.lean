/- The abstract machine: an evaluator of code on states with leaves. -/
import Derived.Test.YtophnjjjmikmeaaGreatAmKK
set_option linter.all false
namespace Go.Am
open Go
structure a8 where
 ps:aG
 p:aq
 T:ps.T→Option p.T
def ax (E:Env) (g:FuncId) (e:a8):Prop:=∀ x y,e.T x=some y→bP E g (e.ps.enc x) (fun r=>r=e.p.enc y)
inductive XK
 | norm
 | ret
 | ex (id:Nat)
def XK.is:XK→Exit→Bool
 | .norm,.normal=>true
 | .ret,.ret=>true
 | .ex i,.exit j=>Nat.beq i j
 | _,_=>false
def XK.exit:XK→Exit
 | .norm=>.normal
 | .ret=>.ret
 | .ex i=>.exit i
theorem XK.El {k:XK} {e:Exit} (h:k.is e=true):e=k.exit:=by
 cases k <;> cases e <;> simp_all [XK.is,XK.exit]
def JT:List (XK × bw)→Type
 | []=>Empty
 | [x]=>x.2.ps.T
 | x :: y :: l=>x.2.ps.T ⊕ JT (y :: l)
def gw (s:St):(outs:List (XK × bw))→Exit→St→Option (JT outs)
 | [],_,_=>none
 | [x],e,s'=>bif x.1.is e then x.2.dec s s' else none
 | x :: y :: l,e,s'=>bif x.1.is e then (x.2.dec s s').bind fun v=>some (.inl v) else (gw s (y :: l) e s').bind fun o=>some (.inr o)
def Ge {α:Type} (s:St):(outs:List (XK × bw))→JT outs→(Exit→St→α)→α
 | [],o,_=>Empty.rec (fun _=>α) o
 | [x],o,K=>K x.1.exit (x.2.st s o)
 | x :: y :: l,o,K=>Sum.elim (fun v=>K x.1.exit (x.2.st s v)) (fun o=>Ge s (y :: l) o K) o
inductive dR
 | loop (gh:List (Loc × Nat × TypeId)) (head:bw) (outs:List (XK × bw))
 | join (outs:List (XK × bw))
 | Vl (k:List Bool) (gh:List (Loc × Nat × TypeId)) (head:bw) (outs:List (XK × bw))
 | W0 (n:Nat) (a b:dR)
 | kR (gh:List (Loc × Nat × TypeId)) (head:bw) (outs:List (XK × bw))
 | RI (gh:List (Loc × Nat × TypeId)) (head:bw)
 | HG (t:Tmp) (sz:Nat) (e:TypeId) (head:bw) (outs:List (XK × bw))
def HH (n:Nat):dR→dR
 | .W0 m a b=>bif Nat.beq n m then HH n a else HH n b
 | c=>c
def a6 {V X:Type} (rd:V→Option (V ⊕ X)):Nat→V→Option X
 | 0,_=>none
 | n+1,v=>(rd v).bind fun o=>Sum.elim (fun v'=>a6 rd n v') (fun x=>some x) o
def kR {V X:Type} (rd:(V→Option X)→V→Option X):Nat→V→Option X
 | 0,_=>none
 | n+1,v=>rd (kR rd n) v
structure NS (E:Env) (g:FuncId) where
 f:List AV→List GO→Option (Bool × AV × List GO)
 ok:∀ args G r G',f args G=some (true,r,G')→cC E g args G (fun r' Qv=>r'=r∧Qv=G')
structure NT (E:Env) (g:FuncId) where
 ps:aG
 outs:List RF
 T:ps.T→Option (XT outs)
 ok:∀ x y,T x=some y→vL E g (ps.enc x) outs (fun z=>z=y)
structure fP where
 D:NH
 HI:FuncId→Option a8
 Bt:FuncId→Nat→Option dR
 fz:Bool
 N:Nat
 gt:(g:FuncId)→Option (NS D.toEnv g):=fun _=>none
 xt:(g:FuncId)→Option (NT D.toEnv g):=fun _=>none
def nK {α:Type} (fz:Bool) (s:St) (K:St→α):α:=match fz with
 | true=>C3 s K
 | false=>match s with
  | ⟨sl,bx,G,m,ro,n⟩=>K ⟨sl,bx,G,m,ro,n⟩
theorem ca {α:Type} (fz:Bool) (s:St) (K:St→α):nK fz s K=K s:=by
 cases fz
 ·rfl
 ·exact Fx s K
abbrev mX (X:Type):=FuncId→List AV→List GO→(AV→List GO→Option X)→Option X
abbrev kr (X:Type):=Nat→List AV→List GO→(Bool→List GO→Option X)→Option X
section ev
variable {X:Type}
def zK (E:Env) (s:St) (o:Oper):Option (Int × Nat × (Nat→Oper)):=match o.op with
 | .index t x (.tmp y)=>match ba E s.ab (.tmp y),E.ti t with
  | .v (.int k n),some i=>match i.k with
   | .arr len _ _=>some (n,len,fun j=>{ o with op:=.index t x (.const (.int k j)) })
   | _=>none
  | _,_=>none
 | .indexAddr t x (.tmp y)=>match ba E s.ab (.tmp y),E.ti t with
  | .v (.int k n),some i=>match i.k with
   | .arr len _ _=>match ba E s.ab x with
    | .v (.ep _)=>match E.JB t with
     | some _=>none
     | none=>some (n,len,fun j=>{ o with op:=.indexAddr t x (.const (.int k j)) })
    | _=>some (n,len,fun j=>{ o with op:=.indexAddr t x (.const (.int k j)) })
   | _=>none
  | _,_=>none
 | _=>none
def tO (E:Env) (fz:Bool) (f:FuncId) (g:Nat→Oper) (n:Int) (K:St→Option X) (s:St):Nat→Nat→Option X
 | 0,_=>none
 | m+1,j=>bif decide (n=(j:Int)) then (match ak E f s (g j) with
   | some (c,s')=>bif c then nK fz s' K else none
   | _=>none) else tO E fz f g n K s m (j+1)
def NU (E:Env) (fz:Bool) (call:mX X) (j8:kr X) (f:FuncId) (o:Oper) (K:St→Option X) (s:St):Option X:=
 match o.op with
 | .call { callee:=.value x,args,.. }=>match ba E s.ab x,jU E s.ab args.toList with
  | .v (.fn g first cap),some l=>call g (first++l++cap) s.G (fun r G'=>nK fz ((s.aZ G').put o.dst (.v r)) K)
  | .v (.yield id),some l=>j8 id l s.G (fun b G'=>nK fz ((s.aZ G').put o.dst (.v (.bool b))) K)
  | _,_=>none
 | .defer _=>none
 | .next x true=>match Hz s o.dst (ba E s.ab x) with
  | some (b,s1,s2)=>bif b then nK fz s1 K else nK fz s2 K
  | none=>none
 | .lookup t m k ok=>match tK E s t (ba E s.ab m) (ba E s.ab k) with
  | some (c,v,b)=>bif c then nK fz (s.put o.dst (.v (if ok then .bt [v,.bool b] else v))) K else none
  | none=>match ak E f s o with
   | some (c,s')=>bif c then nK fz s' K else none
   | _=>none
 | .mapUpdate t m k x=>match o.dst,tL E s t (ba E s.ab m) (ba E s.ab k) (ba E s.ab x) with
  | none,some (c,s')=>bif c then nK fz s' K else none
  | _,_=>none
 | .insert t m k x=>match o.dst,tL E s t (ba E s.ab m) (ba E s.ab k) (ba E s.ab x) with
  | none,some (c,s')=>bif c then nK fz s' K else none
  | _,_=>none
 | .call { callee:=.builtin .append,args,argTypes }=>match fC E f s o with
  | some (c,s')=>bif c then nK fz s' K else none
  | none=>match jU E s.ab args.toList with
   | some l=>match zF E s o.dst l argTypes.toList with
    | some (b,s1,c,s2)=>bif b then nK fz s1 K else bif c then nK fz s2 K else none
    | none=>match ak E f s o with
     | some (c,s')=>bif c then nK fz s' K else none
     | _=>none
   | none=>none
 | .call { callee:=.builtin .copy,args,argTypes }=>match jU E s.ab args.toList with
  | some l=>match HB E s o.dst l argTypes.toList with
   | some (c,s')=>bif c then nK fz s' K else none
   | none=>match ak E f s o with
    | some (c,s')=>bif c then nK fz s' K else none
    | _=>none
  | none=>none
 | _=>match zK E s o with
  | some (n,len,g)=>tO E fz f g n K s len 0
  | none=>match ak E f s o with
   | some (c,s')=>bif c then nK fz s' K else none
   | _=>none
def mY (E:Env) (fz:Bool) (call:mX X) (j8:kr X) (f:FuncId) (ops:List Oper) (o:Oper) (K:St→Option X) (s:St):Option X:=
 match o.guard with
 | none=>NU E fz call j8 f o K s
 | some (j,want)=>match mI ops j with
  | none=>none
  | some d=>match lk s.ab d with
   | .v (.bool b)=>match want with
    | true=>bif b then nK fz (s.put (some d) (.v (.bool true))) (NU E fz call j8 f o K) else nK fz ((s.put (some d) (.v (.bool false))).put o.dst (.v eN)) K
    | false=>bif b then nK fz ((s.put (some d) (.v (.bool true))).put o.dst (.v eN)) K else nK fz (s.put (some d) (.v (.bool false))) (NU E fz call j8 f o K)
   | .v (.bt [])=>nK fz (s.put o.dst (.v eN)) K
   | _=>none
def zL (E:Env) (fz:Bool) (call:mX X) (j8:kr X) (f:FuncId) (ops:List Oper) (o:Oper) (K:St→Option X) (s:St):Option X:=
 match o.guard,gY E f s o with
 | none,some s'=>nK fz s' K
 | _,_=>mY E fz call j8 f ops o K s
noncomputable def RJ {X:Type} (l:List Nat) (F:Nat→Option X):Option X:=match l with
 | []=>none
 | i :: r=>@ite _ (∀ j∈r,F j=F i) (Classical.propDecidable _) (F i) none
theorem FE {X:Type} {l:List Nat} {F:Nat→Option X} {x:X} (h:RJ l F=some x):∀ i∈l,F i=some x:=by
 cases l with
 | nil=>cases h
 | cons i r=>
  have h:@ite _ (∀ j∈r,F j=F i) (Classical.propDecidable _) (F i) none=some x:=h
  by_cases hr:∀ j∈r,F j=F i
  ·rw [if_pos hr] at h
   intro j hj
   rcases List.mem_cons.1 hj with rfl | hj
   ·exact h
   ·rw [hr j hj]; exact h
  ·rw [if_neg hr] at h
   cases h
noncomputable def tP (E:Env) (fz:Bool) (call:mX X) (j8:kr X) (f:FuncId) (ops:List Oper) (o:Oper) (K:St→Option X) (s:St):Option X:=
 match o.guard,sb E f s o,qZ E s o with
 | none,some (c,s'),_=>bif c then nK fz s' K else none
 | none,none,some (c,s0,left,g)=>bif c then (bif left.isEmpty then nK fz s0 K else RJ left fun i=>bif (g i).1 then nK fz (g i).2 K else none) else none
 | _,_,_=>zL E fz call j8 f ops o K s
noncomputable def zM (E:Env) (fz:Bool) (call:mX X) (j8:kr X) (f:FuncId) (ops:List Oper) (o:Oper) (K:St→Option X) (s:St):Option X:=
 match EM E f s o with
 | some (c,s')=>bif c then tP E fz call j8 f ops o K s' else none
 | none=>tP E fz call j8 f ops o K s
noncomputable def Ki (E:Env) (fz:Bool) (call:mX X) (j8:kr X) (f:FuncId) (ops:List Oper):List Oper→(St→Option X)→St→Option X
 | [],K,s=>K s
 | o :: rest,K,s=>zM E fz call j8 f ops o (fun s'=>match xV E f o s' with
  | some (c,s2)=>bif c then Ki E fz call j8 f ops rest K s2 else none
  | none=>none) s
def NV (E:Env) (f:FuncId) (ops:List Oper) (o:Oper) (s:St):Bool:=match o.op,o.dst with
 | .lookup t m k ok,some d=>match Ai ops s o,tK E s t (ba E s.ab m) (ba E s.ab k) with
  | some true,some (c,v,b)=>c&&zv (.v (if ok then .bt [v,.bool b] else v)) (lk s.ab d)
  | _,_=>Tp E f ops o s
 | _,_=>Tp E f ops o s
def nL (E:Env) (f:FuncId) (ops:List Oper):List Nat→St→Bool
 | [],_=>true
 | k :: l,s=>(match nth ops k with
  | some ok=>NV E f ops ok s
  | none=>true)&&nL E f ops l s
def oT (E:Env) (fz:Bool) (call:mX X) (j8:kr X) (eg:Option X→Option X→Option X) (f:FuncId) (ops:List Oper):DT→(St→Option X)→St→Option X
 | .done,K,s=>K s
 | .take j _ t,K,s=>match nth ops j with
  | some oj=>mY E fz call j8 f ops oj (oT E fz call j8 eg f ops t K) s
  | none=>none
 | .br i re _ t .stop,K,s=>match nth ops i with
  | some oi=>mY E fz call j8 f ops oi (fun s'=>bif nL E f ops re s' then oT E fz call j8 eg f ops t K s' else none) s
  | none=>none
 | .br i re _ t more,K,s=>eg (match nth ops i with
  | some oi=>mY E fz call j8 f ops oi (fun s'=>bif nL E f ops re s' then oT E fz call j8 eg f ops t K s' else none) s
  | none=>none) (oT E fz call j8 eg f ops more K s)
 | .stop,_,_=>none
 | .al j W t,K,s=>match nth ops j with
  | some oj=>bif Nz E f oj W s then mY E fz call j8 f ops oj (oT E fz call j8 eg f ops t K) s else none
  | none=>none
end ev
def yn {X:Type} (N:St→Option X) (Q:Exit→St→Option X):Exit→St→Option X
 | .normal,s=>N s
 | e,s=>Q e s
def HJ {X:Type} (id:Nat) (Q:Exit→St→Option X):Exit→St→Option X
 | .exit gb,s=>bif Nat.beq gb id then Q .normal s else Q (.exit gb) s
 | e,s=>Q e s
def NW {X:Type} (Q:Exit→St→Option X):Exit→St→Option X
 | .goto _,_=>none
 | e,s=>Q e s
def HK {X:Type} (E:Env) (fn:Func) (K:AV→List GO→Option X):Exit→St→Option X
 | .normal,s | .ret,s=>match mK s.marks s.G with
  | some G=>match Hd E (s.aZ G) fn with
   | some r=>K r G
   | none=>none
  | none=>none
 | _,_=>none
def sL (s:St) (head:bw) (outs:List (XK × bw)):Exit→St→Option (head.ps.T ⊕ JT outs)
 | .normal,s'=>(head.dec s s').bind fun v=>some (.inl v)
 | e,s'=>(gw s outs e s').bind fun o=>some (.inr o)
noncomputable def wM {X:Type} (a b:Option X):Option X:=@ite _ (a=b) (Classical.propDecidable _) a none
def sM {X:Type} (eg:Option X→Option X→Option X):Prop:=∀ a b x,eg a b=some x→a=some x∧b=some x
def Dk {X:Type} (id:Nat) (K:Bool→List GO→Option X):Exit→St→Option X:=fun e s=>match nth s.G id with
 | some (.loop _ _ fn sl n ps oN bd d _)=>match e with
  | .normal=>K true (au s.G id (.loop false none fn sl n ps oN bd d false))
  | .ret=>K false (au s.G id (.loop false (some .ret) fn sl n ps oN bd d true))
  | .exit i=>K false (au s.G id (.loop false (some (.exit i)) fn sl n ps oN bd d true))
  | _=>none
 | _=>none
def Tu (fp:Nat):Nat:=fp % 4096
def W2 (fp:Nat):Nat:=fp / 4096
abbrev Qy:=FuncId→Nat→Code→(X:Type)→(Option X→Option X→Option X)→(Exit→St→Option X)→St→Option X
section
variable (C:fP) (ih:Qy)
def Bu {X:Type} (eg:Option X→Option X→Option X):mX X:=fun g args G K=>
 bif C.D.okF g then match C.D.P.funcs[g]? with
   | some fn=>match fn.body with
    | some b => bif !(fn.name == "runtime.NumGoroutine") then ih g 1 b X eg (HK C.D.toEnv fn (bif C.D.tW g 131072 then NO C.D.toEnv (C.D.tW g 131073) (C.D.tW g 131074) fn.resultTypes.toList K else K)) (St.init fn.ntmps args G) else none
    | none=>none
   | none=>none
  else none
def yo {X:Type} (eg:Option X→Option X→Option X):mX X:=fun g args G K=>
 match C.HI g with
 | some e=>(e.ps.dec args).bind fun x=>(e.T x).bind fun y=>K (e.p.enc y) G
 | none=>match C.gt g with
  | some e=>match e.f args G with
   | some (c,r,G')=>bif c then K r G' else none
   | none=>none
  | none=>match C.xt g with
   | some e=>(e.ps.dec args).bind fun x=>(e.T x).bind fun o=>Qw G K e.outs o
   | none=>Bu C ih eg g args G K
def Kj (n:Nat):List Tmp→Bool
 | []=>true
 | t :: l=>Nat.blt t n&&Kj n l
def Kk {X:Type} (eg:Option X→Option X→Option X):kr X:=fun id args G K=>match nth G id with
 | some (.loop false _ fp sl n ps oN bd _ false)=>
  bif Nat.beq args.length ps.length&&Kj n ps&&bj (C.D.dt (Tu fp)) oN&&bj (C.D.dt (Tu fp)) bd then
   ih (Tu fp) (2 * W2 fp) oN X eg (fun e s1=>match e with
    | .normal=>match nth s1.G id with
     | some (.loop false p fn sl n ps oN Qt d false)=>ih (Tu fp) (2 * W2 fp+1) bd X eg (Dk id K) (s1.aZ (au s1.G id (.loop true p fn sl n ps oN Qt d false)))
     | _=>none
    | _=>none) (St.round id (vG ps args sl) n G)
  else none
 | _=>none
noncomputable def vP (f:FuncId) (p:Nat) (c:Code) (X:Type) (eg:Option X→Option X→Option X) (K:Exit→St→Option X) (s:St):Option X:=
 match c with
 | .skip=>K .normal s
 | .label _=>K .normal s
 | .seq x y=>ih f (2 * p) x X eg (yn (ih f (2 * p+1) y X eg K) K) s
 | .cond c x y=>match ba C.D.toEnv s.ab c with
  | .v (.bool b)=>bif b then ih f (2 * p) x X eg K s else ih f (2 * p+1) y X eg K s
  | _=>none
 | .block id c=>ih f (2 * p) c X eg (HJ id K) s
 | .exit id=>K (.exit id) s
 | .ret=>K .ret s
 | .region _ ops false=>Ki C.D.toEnv C.fz (yo C ih eg) (Kk C ih eg) f ops.toList ops.toList (K .normal) s
 | .region id ops true=>match C.D.dt f id with
  | some pl=>oT C.D.toEnv C.fz (yo C ih eg) (Kk C ih eg) eg f ops.toList pl.T (K .normal) s
  | none=>none
 | .scope c=>ih f (2 * p) c X eg (NW K) s
 | .loop c=>ih f (2 * p) c X eg (yn (ih f p (.loop c) X eg K) K) s
 | .rangeFunc g ps oN bd=>match s.ro with
  | none=>match ba C.D.toEnv s.ab g with
   | .v (.fn h first cap)=>yo C ih eg h (first++[.yield (s.G.length+1)]++cap) (s.G++[.defers true]++[.loop false none (4096 * p+f) (eA s.ab) s.n ps.toList oN bd s.G.length false])
    (fun _ G'=>match nth G' (s.G.length+1) with
     | some (.loop busy pending _ _ _ _ _ _ _ done)=>bif !busy || done then
       match pending with
       | none=>nK C.fz ⟨s.ab,s.boxes,au G' (s.G.length+1) .dead,s.G.length :: s.marks,s.ro,s.n⟩ (K .normal)
       | some .ret=>nK C.fz ⟨s.ab,s.boxes,au G' (s.G.length+1) .dead,s.G.length :: s.marks,s.ro,s.n⟩ (K .ret)
       | some (.exit i)=>nK C.fz ⟨s.ab,s.boxes,au G' (s.G.length+1) .dead,s.G.length :: s.marks,s.ro,s.n⟩ (K (.exit i))
       | _=>none
      else none
     | _=>none)
   | _=>none
  | some id=>match nth s.G id with
   | some (.loop _ _ _ _ _ _ _ _ d0 _)=>match ba C.D.toEnv s.ab g with
    | .v (.fn h first cap)=>yo C ih eg h (first++[.yield s.G.length]++cap) (s.G++[.loop false none (4096 * p+f) (eA s.ab) s.n ps.toList oN bd d0 false])
     (fun _ G'=>match nth G' s.G.length with
      | some (.loop busy pending _ _ _ _ _ _ _ done)=>bif !busy || done then
        match pending with
        | none=>nK C.fz ⟨s.ab,s.boxes,au G' s.G.length .dead,s.marks,s.ro,s.n⟩ (K .normal)
        | some .ret=>nK C.fz ⟨s.ab,s.boxes,au G' s.G.length .dead,s.marks,s.ro,s.n⟩ (K .ret)
        | some (.exit i)=>nK C.fz ⟨s.ab,s.boxes,au G' s.G.length .dead,s.marks,s.ro,s.n⟩ (K (.exit i))
        | _=>none
       else none
      | _=>none)
    | _=>none
   | _=>none
 | _=>none
def Dl:List Oper→List Tmp
 | []=>[]
 | o :: l=>match o.dst with
  | some d=>d :: Dl l
  | none=>Dl l
def gy:Code→List Tmp→List Tmp
 | .region _ ops _,r=>Dl ops.toList++r
 | .seq x y,r=>gy x (gy y r)
 | .cond _ x y,r=>gy x (gy y r)
 | .block _ c,r=>gy c r
 | .scope c,r=>gy c r
 | .loop c,r=>gy c r
 | .rangeFunc _ ps a b,r=>ps.toList++gy a (gy b r)
 | _,r=>r
def mZ (W:List Tmp) (t:bw):bw:=⟨t.ps,t.sl,W,t.bx,t.g,t.Qr⟩
def na (W:List Tmp):List (XK × bw)→List (XK × bw)
 | []=>[]
 | (k,t) :: l=>(k,mZ W t) :: na W l
def HL:Code→Bool
 | .loop _=>true
 | _=>false
noncomputable def RK {X:Type} (f:FuncId) (p:Nat) (c:Code) (outs:List (XK × bw)) (K:Exit→St→Option X) (s:St):Option X:=
 (vP C ih f p c (JT outs) wM (gw s outs) s).bind fun o=>Ge s outs o K
noncomputable def Ms {X:Type} (f:FuncId) (p:Nat) (b:Code) (s1:St) (head:bw) (outs:List (XK × bw)) (K:Exit→St→Option X):Option X:=
 (head.dec s1 s1).bind fun v0=>(a6 (fun v=>ih f (2 * p) b (head.ps.T ⊕ JT outs) wM (sL s1 head outs) (head.st s1 v)) C.N v0).bind fun o=>Ge s1 outs o K
def HM (s:St) (head:bw) (outs:List (XK × bw)) (k:head.ps.T→Option (JT outs)):Exit→St→Option (JT outs)
 | .normal,s'=>(head.dec s s').bind k
 | e,s'=>gw s outs e s'
noncomputable def HN {X:Type} (f:FuncId) (p:Nat) (b:Code) (s1:St) (head:bw) (outs:List (XK × bw)) (K:Exit→St→Option X):Option X:=
 (head.dec s1 s1).bind fun v0=>(kR (fun k v=>ih f (2 * p) b (JT outs) wM (HM s1 head outs k) (head.st s1 v)) C.N v0).bind fun o=>Ge s1 outs o K
def HO {X:Type} (s:St) (head:bw) (K:Exit→St→Option X) (k:head.ps.T→Option X):Exit→St→Option X
 | .normal,s'=>(head.dec s s').bind k
 | e,s'=>K e s'
noncomputable def HP {X:Type} (f:FuncId) (p:Nat) (b:Code) (s1:St) (head:bw) (K:Exit→St→Option X):Option X:=
 (head.dec s1 s1).bind fun v0=>kR (fun k v=>ih f (2 * p) b X wM (HO s1 head K k) (head.st s1 v)) C.N v0
def HQ (s:St) (head:bw) (outs:List (XK × bw)) (t:Tmp) (sz:Nat) (e:TypeId):Exit→St→Option (head.ps.T ⊕ JT outs)
 | .normal,s'=>match qj s' t sz e with
  | some (c,s2)=>bif c then (head.dec s s2).bind fun v=>some (.inl v) else none
  | none=>none
 | x,s'=>(gw s outs x s').bind fun o=>some (.inr o)
noncomputable def Dm {X:Type} (f:FuncId) (p:Nat) (b:Code) (s1:St) (head:bw) (outs:List (XK × bw)) (t:Tmp) (sz:Nat) (e:TypeId) (K:Exit→St→Option X):Option X:=
 (head.dec s1 s1).bind fun v0=>(a6 (fun v=>match sK (head.st s1 v) t sz e with
  | some s2=>ih f (2 * p) b (head.ps.T ⊕ JT outs) wM (HQ s1 head outs t sz e) s2
  | none=>none) C.N v0).bind fun o=>Ge s1 outs o K
def HR {X:Type} (eg:Option X→Option X→Option X) (f:FuncId) (K:Exit→St→Option X):List Bool→Nat→Code→St→Option X
 | [],_,_,s=>K .normal s
 | true :: k,q,.seq x y,s=>ih f (2 * q) x X eg (yn (HR eg f K k (2 * q+1) y) K) s
 | false :: k,q,.seq x _,s=>HR eg f K k (2 * q) x s
 | _ :: _,_,_,_=>none
def Kl {X:Type} (eg:Option X→Option X→Option X) (f:FuncId):List Bool→Nat→Code→(Exit→St→Option X)→St→Option X
 | [],q,c,K,s=>ih f q c X eg K s
 | true :: k,q,.seq _ y,K,s=>Kl eg f k (2 * q+1) y K s
 | false :: k,q,.seq x y,K,s=>Kl eg f k (2 * q) x (yn (ih f (2 * q+1) y X eg K) K) s
 | _ :: _,_,_,_,_=>none
noncomputable def RL {X:Type} (f:FuncId) (p:Nat) (b:Code) (k:List Bool) (s1:St) (head:bw) (outs:List (XK × bw)) (K:Exit→St→Option X):Option X:=
 ((HR ih wM f (sL s1 head outs) k (2 * p) b s1).bind fun r0=>
  Sum.elim (fun v0=>a6 (fun v=>Kl ih wM f k (2 * p) b (yn (HR ih wM f (sL s1 head outs) k (2 * p) b) (sL s1 head outs)) (head.st s1 v)) C.N v0) (fun x=>some x) r0).bind fun o=>Ge s1 outs o K
noncomputable def vQ (f:FuncId) (p:Nat) (c:Code) (X:Type) (eg:Option X→Option X→Option X) (K:Exit→St→Option X) (s:St):Option X:=
 match C.Bt f p with
 | none=>vP C ih f p c X eg K s
 | some ct=>match HH s.G.length ct with
  | .join outs=>bif HL c then none else RK C ih f p c (na (gy c []) outs) K s
  | .loop gh head outs=>match c with
   | .loop b=>match eS gh s with
    | some s1=>Ms C ih f p b s1 (mZ (gy b []) head) (na (gy b []) outs) K
    | none=>none
   | _=>none
  | .Vl k gh head outs=>match c with
   | .loop b=>match eS gh s with
    | some s1=>RL C ih f p b k s1 (mZ (gy b []) head) (na (gy b []) outs) K
    | none=>none
   | _=>none
  | .kR gh head outs=>match c with
   | .loop b=>match eS gh s with
    | some s1=>HN C ih f p b s1 (mZ (gy b []) head) (na (gy b []) outs) K
    | none=>none
   | _=>none
  | .RI gh head=>match c with
   | .loop b=>match eS gh s with
    | some s1=>HP C ih f p b s1 (mZ (gy b []) head) K
    | none=>none
   | _=>none
  | .HG t sz e head outs=>match c with
   | .loop b=>match qj s t sz e with
    | some (cc,s1)=>bif cc then Dm C ih f p b s1 (mZ (gy b []) head) (na (gy b []) outs) t sz e K else none
    | none=>none
   | _=>none
  | .W0 _ _ _=>none
end
noncomputable def ev (C:fP):Nat→Qy:=Nat.rec (fun _ _ _ _ _ _ _=>none) (fun _ ih=>vQ C ih)
end Go.Am
namespace Go.Am
open Go
section ext
variable {E:Env} {f:FuncId} {s s':St} {o:Oper}
theorem az.put (s:St) (d:Option Tmp) (x:SV):az s (s.put d x):=by
 cases d with
 | none=>exact az.refl s
 | some d=>
  simp only [St.put]
  split
  ·exact ⟨⟨[_],rfl⟩,⟨[],rfl⟩,rfl⟩
  ·exact az.refl s
theorem az.aZ (s:St) (G:List GO):az s (s.aZ G):=⟨⟨[],rfl⟩,⟨[],rfl⟩,rfl⟩
theorem az.cU (s:St) (o:GO):az s (s.cU o):=⟨⟨[],rfl⟩,⟨[],rfl⟩,rfl⟩
theorem az.r7 (s:St) (d:Nat) (cs:List AV):az s (s.r7 d cs):=⟨⟨[],rfl⟩,⟨[_],rfl⟩,rfl⟩
theorem az.kill (s:St) (d:Nat):az s (s.kill d):=⟨⟨[_],rfl⟩,⟨[],rfl⟩,rfl⟩
theorem FF {c:Bool} {s':St} (h:fC E f s o=some (c,s')):az s s':=by
 unfold fC at h
 repeat' (split at h)
 all_goals (first | (cases h; done) | skip)
 all_goals (injection h with h; injection h with _ h; subst h; exact (az.aZ _ _).trans (az.put _ _ _))
theorem Dn {t:TypeId} {p x:SV} {c:Bool} {s':St} (h:dU E s t p x=some (c,s')):az s s':=by
 have store:∀ {t:TypeId} {p x:SV} {s':St},fy E s t p x=some s'→az s s':=by
  intro t p x s' h
  unfold fy at h
  repeat' (split at h)
  all_goals (first | (cases h; done) | skip)
  all_goals (injection h with h; subst h)
  ·exact az.r7 _ _ _
  ·exact az.aZ _ _
 unfold dU at h
 repeat' (split at h)
 all_goals (first | (cases h; done) | skip)
 all_goals (injection h with h; injection h with _ h; subst h)
 all_goals (first | exact az.aZ _ _ | exact store (by assumption))
theorem Dp {t:TypeId} {p x:SV} {c:Bool} {s':St} (h:iz E s t p x=some (c,s')):az s s':=by
 unfold iz at h
 split at h
 ·rename_i hs
  injection h with h; injection h with _ h
  subst h
  exact (az.aZ s (ox s p x).2.2).trans (Dn (s:=s.aZ (ox s p x).2.2) hs)
 ·cases h
theorem Dq {c:Bool} (h:ak E f s o=some (c,s')):az s s':=by
 have alloc:∀ {el:TypeId} {cs:List AV} {c:Bool} {s':St},ej E f s o.dst el cs=some (c,s')→az s s':=by
  intro el cs c s' h
  unfold ej at h
  repeat' (split at h)
  all_goals (first | (cases h; done) | skip)
  ·injection h with h; injection h with _ h; subst h; exact (az.cU _ _).trans (az.put _ _ _)
  ·injection h with h; injection h with _ h; subst h; exact ((az.kill _ _).trans (az.r7 _ _ _)).trans (az.put _ _ _)
 have store:∀ {t:TypeId} {p x:SV} {s':St},fy E s t p x=some s'→az s s':=by
  intro t p x s' h
  unfold fy at h
  repeat' (split at h)
  all_goals (first | (cases h; done) | skip)
  all_goals (injection h with h; subst h)
  ·exact az.r7 _ _ _
  ·exact az.aZ _ _
 have Nr:∀ {t:TypeId} {p x:SV} {c:Bool} {s':St},dU E s t p x=some (c,s')→az s s':=by
  intro t p x c s' h
  unfold dU at h
  repeat' (split at h)
  all_goals (first | (cases h; done) | skip)
  all_goals (injection h with h; injection h with _ h; subst h)
  all_goals (first | exact az.aZ _ _ | exact store (by assumption))
 have blt:∀ {b:Builtin} {l:List AV} {tys:List TypeId} {c:Bool} {s':St},bJ E s o.dst b l tys=some (c,s')→az s s':=by
  intro b l tys c s' h
  unfold bJ at h
  repeat' (split at h)
  all_goals (first | (cases h; done) | skip)
  all_goals (injection h with h; injection h with _ h; subst h)
  all_goals (first | exact az.put _ _ _ | exact (az.aZ _ _).trans (az.put _ _ _) | exact az.aZ _ _)
 have update:∀ {t:TypeId} {m k x:SV} {s':St},eo E s t m k x=some s'→az s s':=by
  intro t m k x s' h
  unfold eo at h
  repeat' (split at h)
  all_goals (first | (cases h; done) | skip)
  all_goals (injection h with h; subst h; exact az.aZ _ _)
 have next:∀ {x:SV} {s':St},jW s o.dst x=some s'→az s s':=by
  intro x s' h
  unfold jW at h
  split at h
  ·split at h
   ·rename_i l pos hg
    cases hb:Nat.blt pos l.length <;> rw [hb] at h <;> simp only [cond_true,cond_false] at h <;> cases h
    ·exact az.put _ _ _
    ·exact (az.aZ _ _).trans (az.put _ _ _)
   ·cases h
  ·cases h
 have CJ:∀ {t:TypeId} {m k:SV} {c:Bool} {v:AV} {s':St},eX E s t m k=some (c,v,s')→az s s':=by
  intro t m k c v s' h
  unfold eX at h
  repeat' (split at h)
  all_goals (first | (cases h; done) | skip)
  all_goals (injection h with h; injection h with _ h; injection h with _ h; subst h; exact az.aZ _ _)
 have CK:∀ {m st x:SV} {c:Bool} {s':St},dC s m st x=some (c,s')→az s s':=by
  intro m st x c s' h
  unfold dC at h
  repeat' (split at h)
  all_goals (first | (cases h; done) | skip)
  all_goals (injection h with h; injection h with _ h; subst h; exact az.aZ _ _)
 unfold ak ln at h
 repeat' (split at h)
 all_goals (first | (cases h; done) | exact alloc h | exact blt h | (rename_i hf; cases h; exact FF hf) | skip)
 all_goals (injection h with h; injection h with _ h; subst h)
 all_goals (first | exact az.put _ _ _ | exact (az.cU _ _).trans (az.put _ _ _) | exact (az.aZ _ _).trans (az.put _ _ _) | skip)
 all_goals (first | exact Dp (by assumption) | exact update (by assumption) | exact (CJ (by assumption)).trans (az.put _ _ _) | exact CK (by assumption) | exact next (by assumption))
theorem cC.fB {g:FuncId} {args Mt:List AV} {G:List GO} {Q:AV→List GO→Prop} (hw:b9 args Mt) (h:cC E g Mt G Q):cC E g args G Q:=
 ⟨h.1,fun R w cs hg hl=>h.2 R w cs hg (hw.rel hl)⟩
theorem Bv {K:St→Prop} (h:iZ E f o K s):iZ E f o (fun s'=>K s'∧az s s') s:=by
 unfold iZ at *
 split
 ·rename_i x args tys ho
  rw [ho] at h
  simp only at h
  split at h
  ·exact h.mono fun r G' hk=>⟨hk,(az.aZ _ _).trans (az.put _ _ _)⟩
  ·exact h.mono fun r G' hk=>⟨hk,(az.aZ _ _).trans (az.put _ _ _)⟩
  ·exact h
 ·rename_i ho
  rw [ho] at h
  exact h
 ·rename_i nc nd
  split at h
  ·rename_i ho
   exact absurd ho (nc _ _ _)
  ·exact h.elim
  ·split at h
   ·rename_i c s' hs
    obtain ⟨hc,hk⟩:=h.out
    exact cX.mk hc ⟨hk,Dq hs⟩
   ·exact h.elim
theorem j9 {K:St→Prop} {ops:List Oper} (h:bS E f ops o K s):bS E f ops o (fun s'=>K s'∧az s s') s:=by
 unfold bS at *
 split
 ·rename_i hg
  rw [hg] at h
  exact Bv h
 ·rename_i j want hg
  rw [hg] at h
  simp only at h
  split
  ·rename_i hd
   rw [hd] at h
   exact h
  ·rename_i d hd
   rw [hd] at h
   simp only at h
   split
   ·rename_i b hb
    rw [hb] at h
    simp only at h
    refine ⟨fun e=>?_,fun e=>⟨h.2 e,(az.put _ _ _).trans (az.put _ _ _)⟩⟩
    exact rM (Bv (h.1 e)) fun s' hh=>⟨hh.1,(az.put _ _ _).trans hh.2⟩
   ·rename_i hb
    rw [hb] at h
    exact ⟨h,az.put _ _ _⟩
   ·rename_i hb iQ
    split at h
    ·rename_i b Aj
     exact absurd Aj (hb b)
    ·rename_i Aj
     exact absurd Aj iQ
    ·exact h
theorem xj {K K':St→Prop} {ops:List Oper} (h:eT E f ops o K s) (hK:∀ s,K s→K' s):eT E f ops o K' s:=by
 unfold eT at *
 split
 ·rename_i s' h1 h2
  rw [h1,h2] at h
  exact hK _ h
 ·rename_i hn
  split at h
  ·rename_i s' h1 h2
   exact absurd h2 (hn s' h1)
  ·exact bT h hK
theorem tw {s':St} (h:gY E f s o=some s'):az s s':=by
 unfold gY at h
 repeat' (split at h)
 all_goals (first | (cases h; done) | skip)
 all_goals (injection h with h; subst h; exact (az.cU _ _).trans (az.put _ _ _))
theorem zN {K:St→Prop} {ops:List Oper} (h:eT E f ops o K s):eT E f ops o (fun s'=>K s'∧az s s') s:=by
 unfold eT at *
 split
 ·rename_i s' h1 h2
  rw [h1,h2] at h
  exact ⟨h,tw h2⟩
 ·rename_i hn
  split at h
  ·rename_i s' h1 h2
   exact absurd h2 (hn s' h1)
  ·exact j9 h
theorem ks {K K':St→Prop} {ops:List Oper} (h:eC E f ops o K s) (hK:∀ s,K s→K' s):eC E f ops o K' s:=by
 unfold eC at *
 split at h
 ·obtain ⟨h1,h2⟩:=h.out
  exact cX.mk h1 (hK _ h2)
 ·obtain ⟨h1,h2,h3⟩:=h.out
  exact cX.mk h1 ⟨fun e=>hK _ (h2 e),fun i hi=>let ⟨k1,k2⟩:=(h3 i hi).out; cX.mk k1 (hK _ k2)⟩
 ·exact xj h hK
theorem Dr {c:Bool} {s':St} (h:oA E f s o=some (c,s')):az s s':=by
 unfold oA at h
 repeat' (split at h)
 all_goals (first | (cases h; done) | skip)
 all_goals (injection h with h; injection h with _ h; subst h; exact (az.aZ _ _).trans (az.put _ _ _))
theorem HS {c:Bool} {s':St} (h:B5 E f s o=some (c,s')):az s s':=by
 unfold B5 at h
 repeat' (split at h)
 all_goals (first | (cases h; done) | skip)
 all_goals (injection h with h; injection h with _ h; subst h; exact (az.aZ _ _).trans (az.put _ _ _))
theorem FG {c:Bool} {s':St} (h:sb E f s o=some (c,s')):az s s':=by
 unfold sb at h
 split at h
 ·rename_i r hr
  cases h
  exact HS hr
 ·exact Dr h
theorem Ds {c:Bool} {s0:St} {left:List Nat} {g:Nat→Bool × St} (h:qZ E s o=some (c,s0,left,g)):az s s0∧∀ i,az s (g i).2:=by
 unfold qZ at h
 split at h
 ·unfold xy at h
  split at h
  ·split at h
   ·split at h
    ·cases h
     exact ⟨az.put _ _ _,fun i=>(az.aZ _ _).trans (az.put _ _ _)⟩
    ·cases h
   ·cases h
  ·cases h
 ·cases h
theorem qk {K:St→Prop} {ops:List Oper} (h:eC E f ops o K s):eC E f ops o (fun s'=>K s'∧az s s') s:=by
 unfold eC at *
 split at h
 ·rename_i hb
  obtain ⟨h1,h2⟩:=h.out
  exact cX.mk h1 ⟨h2,FG hb⟩
 ·rename_i hb
  obtain ⟨h1,h2,h3⟩:=h.out
  obtain ⟨k1,k2⟩:=Ds hb
  exact cX.mk h1 ⟨fun e=>⟨h2 e,k1⟩,fun i hi=>let ⟨q1,q2⟩:=(h3 i hi).out; cX.mk q1 ⟨q2,k2 i⟩⟩
 ·exact zN h
theorem ku {K K':St→Prop} {ops:List Oper} (h:eD E f ops o K s) (hK:∀ s,K s→K' s):eD E f ops o K' s:=by
 unfold eD at *
 split at h
 ·exact ⟨h.1,ks h.2 hK⟩
 ·exact ks h hK
theorem fZ {cut wk:Bool}:∀ {l:List Operand} {s s':St} {c:Bool},fJ cut wk l s=(c,s')→az s s'
 | [],s,s',c,h=>by
  simp only [fJ] at h
  cases h
  exact az.refl _
 | .tmp t :: l,s,s',c,h=>by
  unfold fJ at h
  split at h
  ·rename_i c1 s1 h1
   cases h2:fJ cut wk l s1 with
   | mk c2 s2=>
   rw [h2] at h
   simp only [Prod.mk.injEq] at h
   obtain ⟨_,rfl⟩:=h
   exact (hU h1).trans (fZ h2)
  ·exact fZ h
 | .const _ :: l,s,s',c,h=>fZ (l:=l) h
 | .global _ :: l,s,s',c,h=>fZ (l:=l) h
 | .func _ :: l,s,s',c,h=>fZ (l:=l) h
theorem HT {s s':St} {o:Oper} {c:Bool} (h:EM E f s o=some (c,s')):az s s':=by
 unfold EM at h
 split at h
 ·split at h
  ·injection h with h
   exact fZ h
  ·cases h
 ·cases h
theorem zO {K:St→Prop} {ops:List Oper} (h:eD E f ops o K s):eD E f ops o (fun s'=>K s'∧az s s') s:=by
 unfold eD at *
 split at h
 ·rename_i c s' hz
  exact ⟨h.1,ks (qk h.2) fun s2 h2=>⟨h2.1,(HT hz).trans h2.2⟩⟩
 ·exact qk h
theorem vR {s s':St} {l:Loc} {sz:Nat} {e:TypeId} (h:rJ s l sz e=some s'):az s s':=by
 unfold rJ at h
 split at h
 ·cases h; exact az.cU _ _
 unfold pX at h
 cases CE:Nat.ble 196608 sz with
 | true=>rw [CE] at h; cases h; exact az.cU _ _
 | false=>
 rw [CE] at h
 cases l with
 | slot t=>
  simp only at h
  split at h
  ·cases h; exact ⟨⟨[_],rfl⟩,⟨[],rfl⟩,rfl⟩
  ·cases h
 | box k i=>
  simp only at h
  split at h
  ·split at h
   ·cases h; exact ⟨⟨[],rfl⟩,⟨[_],rfl⟩,rfl⟩
   ·cases h
  ·cases h
 | row id i=>
  simp only at h
  split at h
  ·split at h
   ·cases h; exact ⟨⟨[],rfl⟩,⟨[],rfl⟩,rfl⟩
   ·cases h
  ·cases h
theorem jE:∀ {l:List (Loc × Nat × TypeId)} {s s':St},eS l s=some s'→az s s'
 | [],s,s',h=>by
  simp only [eS] at h
  cases h
  exact az.refl _
 | (l,sz,e) :: r,s,s',h=>by
  unfold eS at h
  split at h
  ·rename_i s1 h1
   exact (vR h1).trans (jE h)
  ·cases h
theorem nb:∀ {l:List (Loc × Nat × TypeId)} {s:St},az s (gU l s)
 | [],s=>az.refl _
 | (l,sz,e) :: r,s=>by
  unfold gU
  split
  ·rename_i s1 h1
   exact (vR h1).trans nb
  ·exact nb
theorem FH {s s':St} {o:Oper} {c:Bool} (h:xV E f o s=some (c,s')):az s s':=by
 unfold xV at h
 split at h
 ·cases h; exact az.refl _
 ·split at h
  ·exact hU h
  ·split at h
   ·cases h; exact az.refl _
   ·split at h
    ·exact AT h
    ·split at h
     ·cases h; exact nb
     ·cases h
theorem vS {K K':St→Prop} {ops:List Oper} (hK:∀ s,K s→K' s):∀ {l:List Oper} {s:St},mJ E f ops l K s→mJ E f ops l K' s
 | [],s,h=>hK s h
 | _ :: _,_,h=>ku h fun s' h'=>by
  unfold xW at *
  split at h'
  ·exact ⟨h'.1,vS hK h'.2⟩
  ·exact h'.elim
theorem vT {K K':St→Prop} {ops:List Oper} (hK:∀ s,K s→K' s) {T:DT} {s:St} (h:qV E f ops T K s):qV E f ops T K' s:=
 eG (ops:=⟨ops⟩) hK T s h
theorem yp {K:St→Prop} {ops:List Oper}:∀ {l:List Oper} {s:St},mJ E f ops l K s→mJ E f ops l (fun s'=>K s'∧az s s') s
 | [],s,h=>⟨h,az.refl s⟩
 | o :: l,s,h=>by
  simp only [mJ] at *
  refine ku (zO h) fun s' hh=>?_
  obtain ⟨h1,h2⟩:=hh
  unfold xW at *
  split at h1
  ·rename_i c s2 hp
   exact ⟨h1.1,vS (fun s3 h3=>⟨h3.1,(h2.trans (FH hp)).trans h3.2⟩) (yp h1.2)⟩
  ·exact h1.elim
theorem ql {K:St→Prop} {ops:List Oper}:∀ {T:DT} {s:St},qV E f ops T K s→qV E f ops T (fun s'=>K s'∧az s s') s
 | .done,s,h=>⟨h,az.refl s⟩
 | .stop,_,_=>trivial
 | .take j C T,s,h=>by
  unfold qV at h ⊢
  split
  ·rename_i oj hj
   rw [hj] at h
   exact bT (j9 h) fun s' hh=>vT (fun s2 h2=>⟨h2.1,hh.2.trans h2.2⟩) (ql hh.1)
  ·rename_i hj
   rw [hj] at h
   exact h
 | .al j W T,s,h=>by
  unfold qV at h ⊢
  split
  ·rename_i oj hj
   rw [hj] at h
   exact ⟨h.1,bT (j9 h.2) fun s' hh=>vT (fun s2 h2=>⟨h2.1,hh.2.trans h2.2⟩) (ql hh.1)⟩
  ·rename_i hj
   rw [hj] at h
   exact h
 | .br i re C T more,s,h=>by
  unfold qV at h ⊢
  refine ⟨?_,ql h.2⟩
  have h:=h.1
  split
  ·rename_i oj hj
   rw [hj] at h
   exact bT (j9 h) fun s' hh=>⟨hh.1.1,vT (fun s2 h2=>⟨h2.1,hh.2.trans h2.2⟩) (ql hh.1.2)⟩
  ·rename_i hj
   rw [hj] at h
   exact h
end ext
def iN (E:Env) (c:Code) (Q:Exit→St→Prop) (s:St):Prop:=ec E c (fun e s'=>Q e s'∧az s s') s
section sound
variable {E:Env} {f:FuncId} {s:St} {X:Type} {fz:Bool} {call:mX X} {j8:kr X} {eg:Option X→Option X→Option X} {x:X}
def lO (E:Env) (call:mX X):Prop:=∀ g args G K x,call g args G K=some x→cC E g args G (fun r G'=>K r G'=some x)
def sN (E:Env) (j8:kr X):Prop:=∀ id args G K x,j8 id args G K=some x→jx E id args G (fun b G'=>K b G'=some x)
theorem aY {α:Type} {c:Bool} {a:Option α} {x:α} (h:(bif c then a else none)=some x):c=true∧a=some x:=by
 cases c
 ·cases h
 ·exact ⟨rfl,h⟩
theorem bind_some {α β:Type} {a:Option α} {k:α→Option β} {x:β} (h:a.bind k=some x):∃ y,a=some y∧k y=some x:=by
 cases a with
 | none=>cases h
 | some y=>exact ⟨y,rfl,h⟩
theorem FI {o:Oper} {n:Int} {len:Nat} {g:Nat→Oper} (h:zK E s o=some (n,len,g)) {j:Nat} (hj:n=(j:Int)):ak E f s (g j)=ak E f s o:=by
 subst hj
 unfold zK at h
 have QM:∀ k:IntKind,ba E s.ab (.const (.int k (j:Int)))=.v (.int k j):=fun k=>rfl
 split at h
 ·rename_i t x y ho
  split at h
  ·rename_i k n i h1 h2
   split at h
   ·injection h with h; injection h with e1 h; injection h with e2 h
    subst h; subst e1
    simp only [ak,ho,QM,h1]
   ·cases h
  ·cases h
 ·rename_i t x y ho
  split at h
  ·rename_i k n i h1 h2
   split at h
   ·split at h
    ·split at h
     ·cases h
     ·injection h with h; injection h with e1 h; injection h with e2 h
      subst h; subst e1
      simp only [ak,ho,QM,h1]
    ·injection h with h; injection h with e1 h; injection h with e2 h
     subst h; subst e1
     simp only [ak,ho,QM,h1]
   ·cases h
  ·cases h
 ·cases h
theorem oe {o:Oper} {n:Int} {len:Nat} {g:Nat→Oper} (hi:zK E s o=some (n,len,g)) {K:St→Option X}:∀ (m j:Nat),tO E fz f g n K s m j=some x→∃ c s',ak E f s o=some (c,s')∧c=true∧K s'=some x
 | 0,_,h=>by cases h
 | m+1,j,h=>by
  unfold tO at h
  by_cases hn:n=(j:Int)
  ·rw [decide_eq_true hn,cond_true,FI hi hn] at h
   split at h
   ·rename_i c s' hs
    obtain ⟨h1,h2⟩:=aY h
    rw [ca] at h2
    exact ⟨c,s',hs,h1,h2⟩
   ·cases h
  ·rw [decide_eq_false hn,cond_false] at h
   exact oe hi m (j+1) h
theorem vU {ops:List Oper} {o:Oper} (h:NV E f ops o s=true):CS E f ops o s:=by
 unfold NV at h
 split at h
 ·rename_i t m k ok d ho hd
  split at h
  ·rename_i c v b hg hs
   rw [Bool.and_eq_true] at h
   obtain ⟨rfl,h⟩:=h
   have hn:=qg hs
   unfold CS
   rw [hg]
   simp only
   have e:ak E f s o=some (true,s.put o.dst (.v (if ok then .bt [v,.bool b] else v))):=by simp only [ak,ho,hn]
   rw [hd] at e
   rw [hd,e]
   refine ⟨rfl,?_⟩
   unfold St.put
   simp only
   split
   ·rw [aw]
    exact yg h
   ·rfl
  ·exact yh h
 ·exact yh h
theorem og {ops:List Oper}:∀ {l:List Nat} {s:St},nL E f ops l s=true→yd E f ops l s
 | [],_,_=>trivial
 | k :: l,s,h=>by
  unfold nL at h
  unfold yd
  rw [Bool.and_eq_true] at h
  refine ⟨?_,og h.2⟩
  have h:=h.1
  split at h
  ·rename_i hk
   first
    | exact vU h
    | rw [hk]; exact vU h
  ·rename_i hk
   first
    | trivial
    | rw [hk]; trivial
theorem rS (hc:lO E call) (hr:sN E j8) {o:Oper} {K:St→Option X} (h:NU E fz call j8 f o K s=some x):iZ E f o (fun s=>K s=some x) s:=by
 unfold iZ
 split
 ·rename_i y args tys ho
  unfold NU at h
  rw [ho] at h
  simp only at h
  split at h
  ·rename_i h1 h2
   rw [h1,h2]
   refine (hc _ _ _ _ _ h).mono fun r G' hk=>?_
   rw [ca] at hk
   exact hk
  ·rename_i h1 h2
   rw [h1,h2]
   refine (hr _ _ _ _ _ h).mono fun r G' hk=>?_
   rw [ca] at hk
   exact hk
  ·cases h
 ·rename_i ho
  unfold NU at h
  rw [ho] at h
  cases h
 ·rename_i nc nd
  unfold NU at h
  split at h
  ·rename_i ho
   exact absurd ho (nc _ _ _)
  ·cases h
  ·rename_i y ho
   split at h
   ·rename_i b s1 s2 hs
    have hn:=Df hs
    have e:ak E f s o=some (true,bif b then s1 else s2):=by simp only [ak,ho,hn]
    rw [e]
    refine cX.mk rfl ?_
    rw [ca,ca] at h
    cases b <;> exact h
   ·cases h
  ·rename_i t m k ok ho
   split at h
   ·rename_i c v b hs
    obtain ⟨h1,h2⟩:=aY h
    subst h1
    rw [ca] at h2
    have hn:=qg hs
    have e:ak E f s o=some (true,s.put o.dst (.v (if ok then .bt [v,.bool b] else v))):=by simp only [ak,ho,hn]
    rw [e]
    exact cX.mk rfl h2
   ·split at h
    ·rename_i c s' hs
     obtain ⟨h1,h2⟩:=aY h
     rw [ca] at h2
     rw [hs]
     exact cX.mk h1 h2
    ·cases h
  ·rename_i t m k z ho
   split at h
   ·rename_i c s' hd hs
    obtain ⟨h1,h2⟩:=aY h
    subst h1
    rw [ca] at h2
    have hn:=qh hs
    have e:ak E f s o=some (true,s'):=by simp only [ak,ho,hd,hn]
    rw [e]
    exact cX.mk rfl h2
   ·cases h
  ·rename_i t m k z ho
   split at h
   ·rename_i c s' hd hs
    obtain ⟨h1,h2⟩:=aY h
    subst h1
    rw [ca] at h2
    have hn:=qh hs
    have e:ak E f s o=some (true,s'):=by simp only [ak,ho,hd,hn]
    rw [e]
    exact cX.mk rfl h2
   ·cases h
  ·rename_i args tys ho
   split at h
   ·rename_i c s' hf
    obtain ⟨h1,h2⟩:=aY h
    rw [ca] at h2
    have e:ak E f s o=some (c,s'):=by simp only [ak,ho,hf]
    rw [e]
    exact cX.mk h1 h2
   ·rename_i hf
    split at h
    ·rename_i l hl
     split at h
     ·rename_i b s1 c s2 hs
      have Cr:b=false→c=true:=fun e=>by subst e; exact (aY (show (bif c then nK fz s2 K else none)=some x from h)).1
      have hn:=zH hs Cr
      have e:ak E f s o=some (true,bif b then s1 else s2):=by simp only [ak,ho,hf,hl,hn]
      rw [e]
      refine cX.mk rfl ?_
      cases b with
      | true=>
       show K s1=some x
       rw [← ca fz s1 K]
       exact h
      | false=>
       obtain ⟨h1,h2⟩:=aY (show (bif c then nK fz s2 K else none)=some x from h)
       rw [ca] at h2
       exact h2
     ·split at h
      ·rename_i c s' hs
       obtain ⟨h1,h2⟩:=aY h
       rw [ca] at h2
       rw [hs]
       exact cX.mk h1 h2
      ·cases h
    ·cases h
  ·rename_i args tys ho
   split at h
   ·rename_i l hl
    split at h
    ·rename_i c s' hs
     obtain ⟨h1,h2⟩:=aY h
     subst h1
     rw [ca] at h2
     have hn:=Dg hs
     have hf:fC E f s o=none:=by
      cases hf:fC E f s o with
      | none=>rfl
      | some r=>
       obtain ⟨_,_,h2⟩:=lF hf
       rw [ho] at h2
       cases h2
     have e:ak E f s o=some (true,s'):=by simp only [ak,ho,hf,hl,hn]
     rw [e]
     exact cX.mk rfl h2
    ·split at h
     ·rename_i c s' hs
      obtain ⟨h1,h2⟩:=aY h
      rw [ca] at h2
      rw [hs]
      exact cX.mk h1 h2
     ·cases h
   ·cases h
  ·split at h
   ·rename_i n len g hi
    obtain ⟨c,s',hs,h1,h2⟩:=oe hi _ _ h
    rw [hs]
    exact cX.mk h1 h2
   ·split at h
    ·rename_i c s' hs
     obtain ⟨h1,h2⟩:=aY h
     rw [ca] at h2
     rw [hs]
     exact cX.mk h1 h2
    ·cases h
theorem jb (hc:lO E call) (hr:sN E j8) {ops:List Oper} {o:Oper} {K:St→Option X} (h:mY E fz call j8 f ops o K s=some x):bS E f ops o (fun s=>K s=some x) s:=by
 unfold mY at h
 unfold bS
 split at h
 ·rename_i hg
  rw [hg]
  exact rS hc hr h
 ·rename_i j want hg
  rw [hg]
  simp only
  split at h
  ·cases h
  ·rename_i d hd
   rw [hd]
   simp only
   split at h
   ·rename_i b hb
    rw [hb]
    simp only
    cases want with
    | true=>
     simp only at h
     rw [ca,ca] at h
     refine ⟨fun e=>?_,fun e=>?_⟩
     ·subst e
      exact rS hc hr h
     ·have e:b=false:=by simpa using e
      subst e
      exact h
    | false=>
     simp only at h
     rw [ca,ca] at h
     refine ⟨fun e=>?_,fun e=>?_⟩
     ·subst e
      exact rS hc hr h
     ·have e:b=true:=by simpa using e
      subst e
      exact h
   ·rename_i hb
    rw [hb]
    rw [ca] at h
    exact h
   ·cases h
theorem xl (hc:lO E call) (hr:sN E j8) {ops:List Oper} {o:Oper} {K:St→Option X} (h:zL E fz call j8 f ops o K s=some x):eT E f ops o (fun s=>K s=some x) s:=by
 unfold zL at h
 unfold eT
 split at h
 ·rename_i s' h1 h2
  rw [h1,h2]
  rw [ca] at h
  exact h
 ·rename_i hn
  split
  ·rename_i s' h1 h2
   exact absurd h2 (hn s' h1)
  ·exact jb hc hr h
theorem oh (hc:lO E call) (hr:sN E j8) {ops:List Oper} {o:Oper} {K:St→Option X} (h:tP E fz call j8 f ops o K s=some x):eC E f ops o (fun s=>K s=some x) s:=by
 unfold tP at h
 unfold eC
 split at h
 ·rename_i c s' h1 h2
  rw [h1,h2]
  obtain ⟨q1,q2⟩:=aY h
  rw [ca] at q2
  exact cX.mk q1 q2
 ·rename_i c s0 left g h1 h2 h3
  rw [h1,h2,h3]
  obtain ⟨q1,q2⟩:=aY h
  refine cX.mk q1 ?_
  cases left with
  | nil=>
   simp only [List.isEmpty_nil,cond_true,ca] at q2
   exact ⟨fun _=>q2,fun i hi=>by simp at hi⟩
  | cons i0 l=>
   simp only [List.isEmpty_cons,cond_false] at q2
   refine ⟨fun e=>(by cases e),fun i hi=>?_⟩
   obtain ⟨r1,r2⟩:=aY (FE q2 i hi)
   rw [ca] at r2
   exact cX.mk r1 r2
 ·rename_i EW W3
  split
  ·rename_i c s' h1 h2
   first
    | exact absurd h2 (EW c s' h1)
    | exact absurd h2 (W3 c s' h1)
  ·rename_i c s0 left g h1 h2 h3
   first
    | exact absurd h3 (W3 c s0 left g h1 h2)
    | exact absurd h3 (EW c s0 left g h1 h2)
  ·exact xl hc hr h
theorem xm (hc:lO E call) (hr:sN E j8) {ops:List Oper} {o:Oper} {K:St→Option X} (h:zM E fz call j8 f ops o K s=some x):eD E f ops o (fun s=>K s=some x) s:=by
 unfold zM at h
 unfold eD
 split at h
 ·rename_i c s' hz
  rw [hz]
  obtain ⟨h1,h2⟩:=aY h
  exact ⟨h1,oh hc hr h2⟩
 ·rename_i hz
  rw [hz]
  exact oh hc hr h
theorem vV (hc:lO E call) (hr:sN E j8) {ops:List Oper}:∀ {l:List Oper} {K:St→Option X} {s:St},Ki E fz call j8 f ops l K s=some x→mJ E f ops l (fun s=>K s=some x) s
 | [],_,_,h=>h
 | o :: l,K,s,h=>by
  unfold Ki at h
  unfold mJ
  refine ku (xm hc hr h) fun s' h'=>?_
  unfold xW
  split at h'
  ·rename_i c s2 hp
   rw [hp]
   cases c with
   | true=>exact ⟨rfl,vV hc hr h'⟩
   | false=>cases h'
  ·cases h'
theorem ik (hc:lO E call) (hr:sN E j8) (hm:sM eg) {ops:List Oper}:∀ {T:DT} {K:St→Option X} {s:St} {x:X},oT E fz call j8 eg f ops T K s=some x→qV E f ops T (fun s=>K s=some x) s
 | .done,_,_,_,h=>h
 | .stop,_,_,_,_=>trivial
 | .take j C T,K,s,x,h=>by
  unfold oT at h
  unfold qV
  split at h
  ·rename_i hk
   rw [hk]
   exact bT (jb hc hr h) fun s' h'=>ik hc hr hm h'
  ·cases h
 | .al j W T,K,s,x,h=>by
  unfold oT at h
  unfold qV
  split at h
  ·rename_i hk
   obtain ⟨h1,h2⟩:=aY h
   rw [hk]
   exact ⟨h1,bT (jb hc hr h2) fun s' h'=>ik hc hr hm h'⟩
  ·cases h
 | .br i re C T more,K,s,x,h=>by
  have first:∀ {x:X},(match nth ops i with
   | some oi=>mY E fz call j8 f ops oi (fun s'=>bif nL E f ops re s' then oT E fz call j8 eg f ops T K s' else none) s
   | none=>none)=some x→(match nth ops i with
   | some oi=>bS E f ops oi (fun s'=>yd E f ops re s'∧qV E f ops T (fun s=>K s=some x) s') s
   | none=>False):=by
   intro x h
   split at h
   ·rename_i hk
    refine bT (jb hc hr h) fun s' h'=>?_
    obtain ⟨h1,h2⟩:=aY h'
    exact ⟨og h1,ik hc hr hm h2⟩
   ·cases h
  unfold qV
  cases more with
  | stop=>exact ⟨first h,trivial⟩
  | done=>obtain ⟨h1,h2⟩:=hm _ _ _ h; exact ⟨first h1,ik (T:=.done) hc hr hm h2⟩
  | take a b c=>obtain ⟨h1,h2⟩:=hm _ _ _ h; exact ⟨first h1,ik hc hr hm h2⟩
  | br a b c d e=>obtain ⟨h1,h2⟩:=hm _ _ _ h; exact ⟨first h1,ik hc hr hm h2⟩
  | al a b c=>obtain ⟨h1,h2⟩:=hm _ _ _ h; exact ⟨first h1,ik hc hr hm h2⟩
end sound
end Go.Am
namespace Go.Am
open Go
section
variable {C:fP} {ih:Qy}
def rT (C:fP) (ih:Qy):Prop:=∀ (f:FuncId) (p:Nat) (c:Code) (X:Type) (eg:Option X→Option X→Option X),sM eg→∀ (K:Exit→St→Option X) (s:St) (x:X),
 bj (C.D.dt f) c=true→ih f p c X eg K s=some x→iN C.D.toEnv c (fun e s'=>K e s'=some x) s
theorem lP {X:Type}:sM (wM (X:=X)):=fun a b x h=>by
 unfold wM at h
 by_cases e:a=b
 ·rw [if_pos e] at h
  exact ⟨h,e ▸ h⟩
 ·rw [if_neg e] at h
  cases h
theorem nf (hs:rT C ih) {X:Type} {eg:Option X→Option X→Option X} (hm:sM eg):lO C.D.toEnv (Bu C ih eg):=fun g args G K x h=>by
 unfold Bu at h
 obtain ⟨cM,h⟩:=aY h
 split at h
 ·rename_i fn W4
  split at h
  ·rename_i b hb
   obtain ⟨hn,h⟩:=aY h
   have fin:∀ {K':AV→List GO→Option X},ih g 1 b X eg (HK C.D.toEnv fn K') (St.init fn.ntmps args G)=some x→cC C.D.toEnv g args G (fun r G'=>K' r G'=some x):=by
    intro K' h
    refine cC.intro W4 hb (by simpa using hn) ((hs g 1 b X eg hm _ _ x (C.D.Mf g fn b cM W4 hb) h).mono fun e s' hq=>?_)
    have hq:=hq.1
    unfold HK at hq
    unfold Mc
    cases e <;> first | (cases hq; done) | skip
    all_goals (simp only at hq ⊢)
    all_goals (split at hq <;> first | (cases hq; done) | skip)
    all_goals (rename_i hl; rw [hl]; simp only)
    all_goals (split at hq <;> first | (cases hq; done) | skip)
    all_goals (rename_i J6; rw [J6]; exact hq)
   cases Tv:C.D.tW g 131072 with
   | true=>rw [Tv] at h; exact cC.YM (fin h)
   | false=>rw [Tv] at h; exact fin h
  ·cases h
 ·cases h
theorem Bw (Dt:∀ g e,C.HI g=some e→ax C.D.toEnv g e) (hs:rT C ih) {X:Type} {eg:Option X→Option X→Option X} (hm:sM eg):lO C.D.toEnv (yo C ih eg):=fun g args G K x h=>by
 unfold yo at h
 split at h
 ·rename_i e he
  obtain ⟨a,ha,h⟩:=bind_some h
  obtain ⟨y,hy,h⟩:=bind_some h
  refine cC.fB (e.ps.oD ha).1 (((Dt g e he a y hy) G).mono fun r G' hr=>?_)
  obtain ⟨rfl,rfl⟩:=hr
  exact h
 ·split at h
  ·rename_i e he
   split at h
   ·rename_i c r G' hf
    obtain ⟨hc,h⟩:=aY h
    subst hc
    refine (e.ok args G r G' hf).mono fun r' Qv hh=>?_
    obtain ⟨rfl,rfl⟩:=hh
    exact h
   ·cases h
  ·split at h
   ·rename_i e he
    obtain ⟨a,ha,h⟩:=bind_some h
    obtain ⟨y,hy,h⟩:=bind_some h
    refine cC.fB (e.ps.oD ha).1 ((e.ok a y hy G).mono fun r G' hr=>?_)
    obtain ⟨z,rfl,hr⟩:=hr
    exact (Bs e.outs z hr).trans h
   ·exact nf hs hm g args G K x h
theorem Bx {n:Nat}:∀ {l:List Tmp},Kj n l=true→∀ t∈l,t < n
 | [],_,t,ht=>by simp at ht
 | a :: l,h,t,ht=>by
  simp only [Kj,Bool.and_eq_true] at h
  rcases List.mem_cons.1 ht with rfl | ht
  ·exact fO h.1
  ·exact Bx h.2 t ht
theorem Du (hs:rT C ih) {X:Type} {eg:Option X→Option X→Option X} (hm:sM eg):sN C.D.toEnv (Kk C ih eg):=fun id args G K x h=>by
 unfold Kk at h
 split at h
 ·rename_i p fp sl n ps oN bd d hG
  obtain ⟨hc,h⟩:=aY h
  simp only [Bool.and_eq_true] at hc
  obtain ⟨⟨⟨h1,h2⟩,h3⟩,h4⟩:=hc
  refine jx.intro hG (Nat.eq_of_beq_eq_true h1) (Bx h2) ((hs _ _ oN X eg hm _ _ x h3 h).mono fun e s1 hq=>?_)
  have hq:=hq.1
  unfold zC
  cases e with
  | normal=>
   simp only at hq ⊢
   split at hq
   ·rename_i p' fn Qq n' Ry Kf Qt d' Va
    rw [Va]
    simp only
    refine (hs _ _ bd X eg hm _ _ x h4 hq).mono fun e2 s2 ma=>?_
    have ma:Dk id K e2 s2=some x:=ma.1
    unfold Dk at ma
    unfold Dd
    split at ma
    ·rename_i Rp
     rw [Rp]
     cases e2 <;> first | (cases ma; done) | exact ma
    ·cases ma
   ·cases hq
  | _=>cases hq
 ·cases h
theorem iN.of {E:Env} {c:Code} {Q Q':Exit→St→Prop} {s:St} (h:iN E c Q s) (hq:∀ e s',Q e s'→az s s'→Q' e s'):ec E c Q' s:=
 ec.mono h fun e s' hh=>hq e s' hh.1 hh.2
theorem nN {s s':St} {e:Exit}:∀ {outs:List (XK × bw)} {o:JT outs},gw s outs e s'=some o→∃ (t:bw) (v:t.ps.T),t.dec s s'=some v∧∀ (α:Type) (K:Exit→St→α),Ge s outs o K=K e (t.st s v)
 | [],o,h=>by cases h
 | [x],o,h=>by
  obtain ⟨h1,h2⟩:=aY (show (bif x.1.is e then x.2.dec s s' else none)=some o from h)
  exact ⟨x.2,o,h2,fun _ K=>by rw [XK.El h1]; rfl⟩
 | x :: y :: l,o,h=>by
  have h:(bif x.1.is e then (x.2.dec s s').bind fun v=>some (.inl v) else (gw s (y :: l) e s').bind fun o=>some (.inr o))=some o:=h
  cases hx:x.1.is e with
  | true=>
   rw [hx] at h
   obtain ⟨v,h1,h2⟩:=bind_some h
   cases h2
   exact ⟨x.2,v,h1,fun _ K=>by rw [XK.El hx]; rfl⟩
  | false=>
   rw [hx] at h
   obtain ⟨v,h1,h2⟩:=bind_some h
   cases h2
   obtain ⟨t,u,k1,k2⟩:=nN h1
   exact ⟨t,u,k1,fun α K=>k2 α K⟩
theorem bw.jF (t:bw) (s:St) (v:t.ps.T):az s (t.st s v):=by
 have h1:∀ (W:List Tmp) (b:aV),∃ pre,vy W b=pre++b:=fun W b=>by
  induction W with
  | nil=>exact ⟨[],rfl⟩
  | cons t W ih=>obtain ⟨p,hp⟩:=ih; exact ⟨.put t .none :: p,by simp [vy,hp]⟩
 have h2:∀ (ts:List Tmp) (l:List AV) (b:aV),∃ pre,mS ts l b=pre++b:=fun ts=>by
  induction ts with
  | nil=>intro l b; exact ⟨[],by cases l <;> rfl⟩
  | cons t ts ih=>
   intro l b
   cases l with
   | nil=>exact ⟨[],rfl⟩
   | cons a l=>obtain ⟨p,hp⟩:=ih l b; exact ⟨.put t (.v a) :: p,by simp [mS,hp]⟩
 have h3:∀ (bx:List (Nat × Nat)) (l:List AV) (b:bX),∃ pre,sH bx l b=pre++b:=fun bx=>by
  induction bx with
  | nil=>intro l b; exact ⟨[],rfl⟩
  | cons x bx ih=>
   obtain ⟨k,n⟩:=x
   intro l b
   obtain ⟨p,hp⟩:=ih (l.drop n) b
   exact ⟨(k,l.take n) :: p,by simp [sH,hp]⟩
 have h4:∀ (l:List (Tmp × Nat × Nat)) (b:aV),∃ pre,mT l b=pre++b:=fun l b=>by
  induction l with
  | nil=>exact ⟨[],rfl⟩
  | cons x l ih=>obtain ⟨t,k,o⟩:=x; obtain ⟨p,hp⟩:=ih; exact ⟨.put t (.lp k o) :: p,by simp [mT,hp]⟩
 obtain ⟨p1,e1⟩:=h1 t.W s.ab
 obtain ⟨p2,e2⟩:=h2 t.sl (t.nU v) (vy t.W s.ab)
 obtain ⟨p3,e3⟩:=h3 t.bx ((t.nU v).drop t.sl.length) s.boxes
 obtain ⟨p4,e4⟩:=h4 t.Qr (p2++(p1++s.ab))
 exact ⟨⟨p4++(p2++p1),by rw [show (t.st s v).ab=mT t.Qr (mS t.sl (t.nU v) (vy t.W s.ab)) from rfl,e2,e1,e4,List.append_assoc,List.append_assoc]⟩,⟨p3,e3⟩,rfl⟩
theorem ec.RM {E:Env} {c:Code} {s s1:St} {gh:List (Loc × Nat × TypeId)} {head:bw} {outs:List (XK × bw)} {rd:head.ps.T→Option (head.ps.T ⊕ JT outs)} {N:Nat} {v0:head.ps.T} {o:JT outs} {Q:Exit→St→Prop}
  (hg:Am.eS gh s=some s1) (h0:head.dec s1 s1=some v0) (hr:∀ v r,rd v=some r→iN E c (fun e s'=>sL s1 head outs e s'=some r) (head.st s1 v))
  (hl:a6 rd N v0=some o) (hQ:∀ (t:bw) (v:t.ps.T) (e:Exit),(∀ (α:Type) (K:Exit→St→α),Ge s1 outs o K=K e (t.st s1 v))→Q e (t.st s1 v)∧az s (t.st s1 v)) :
  iN E (.loop c) Q s:=fun R0 w β a F Jq qT=>by
 obtain ⟨R,k1,k2,k3,_⟩:=gL Jq hg
 have hf:bB R s1.ro F:=by rw [k3]; exact qT.mono k2.ext
 obtain ⟨i1,i2⟩:=bw.Ah (az.refl s1) k1 k1 (Step.refl R w β s1.boxes) h0
 refine gM (fun m a' w'=>∃ v R' β',a6 rd m v=some o∧aL E R' w' β' (head.st s1 v) a'∧Step R w β s1.boxes R' w' β' (head.st s1 v).boxes) ?_ ⟨v0,_,β,hl,i1,i2⟩
 rintro m a' w' ⟨v,R',β',hm,gH,fF⟩
 cases m with
 | zero=>cases hm
 | succ m=>
  obtain ⟨r,h1,h2⟩:=bind_some (show ((rd v).bind fun o=>Sum.elim (fun v'=>a6 rd m v') (fun x=>some x) o)=some o from hm)
  refine wpIn_mono (hr v r h1 R' w' β' a' F gH (hf.mono fF.ext)) ?_
  rintro e a2 w2 ⟨s2,R2,β2,⟨hK,hx⟩,uJ,xn,zD⟩
  have Ak:az s1 s2:=(head.jF s1 v).trans hx
  have st2:=fF.trans xn
  have out:∀ {u:JT outs},gw s1 outs e s2=some u→r=.inr u→No E R0 w β s (fun e s'=>Q e s'∧az s s') e a2 w2:=fun {u} hu hru=>by
   subst hru
   cases h2
   obtain ⟨t,v',q1,q2⟩:=nN hu
   obtain ⟨j1,j2⟩:=bw.Ah Ak k1 uJ st2 q1
   exact ⟨t.st s1 v',_,β2,hQ t v' e q2,j1,k2.trans j2,k3⟩
  cases e with
  | normal=>
   obtain ⟨v',q1,q2⟩:=bind_some (show ((head.dec s1 s2).bind fun v=>some (.inl v))=some r from hK)
   cases q2
   obtain ⟨j1,j2⟩:=bw.Ah Ak k1 uJ st2 q1
   exact ⟨m,Nat.lt_succ_self m,v',_,β2,h2,j1,j2⟩
  | exit i=>obtain ⟨u,q1,q2⟩:=bind_some (show ((gw s1 outs (.exit i) s2).bind fun o=>some (.inr o))=some r from hK); exact out q1 (Option.some.inj q2).symm
  | ret=>obtain ⟨u,q1,q2⟩:=bind_some (show ((gw s1 outs .ret s2).bind fun o=>some (.inr o))=some r from hK); exact out q1 (Option.some.inj q2).symm
  | goto i=>obtain ⟨u,q1,q2⟩:=bind_some (show ((gw s1 outs (.goto i) s2).bind fun o=>some (.inr o))=some r from hK); exact out q1 (Option.some.inj q2).symm
  | panic i=>obtain ⟨u,q1,q2⟩:=bind_some (show ((gw s1 outs (.panic i) s2).bind fun o=>some (.inr o))=some r from hK); exact out q1 (Option.some.inj q2).symm
  | outgrown=>obtain ⟨u,q1,q2⟩:=bind_some (show ((gw s1 outs .outgrown s2).bind fun o=>some (.inr o))=some r from hK); exact out q1 (Option.some.inj q2).symm
theorem ec.NX {E:Env} {c:Code} {s s1:St} {gh:List (Loc × Nat × TypeId)} {head:bw} {outs:List (XK × bw)} {rd:(head.ps.T→Option (JT outs))→head.ps.T→Option (JT outs)} {N:Nat} {v0:head.ps.T} {o:JT outs} {Q:Exit→St→Prop}
  (hg:Am.eS gh s=some s1) (h0:head.dec s1 s1=some v0) (hr:∀ k v u,rd k v=some u→iN E c (fun e s'=>HM s1 head outs k e s'=some u) (head.st s1 v))
  (hl:kR rd N v0=some o) (hQ:∀ (t:bw) (v:t.ps.T) (e:Exit),(∀ (α:Type) (K:Exit→St→α),Ge s1 outs o K=K e (t.st s1 v))→Q e (t.st s1 v)∧az s (t.st s1 v)) :
  iN E (.loop c) Q s:=fun R0 w β a F Jq qT=>by
 obtain ⟨R,k1,k2,k3,_⟩:=gL Jq hg
 have hf:bB R s1.ro F:=by rw [k3]; exact qT.mono k2.ext
 obtain ⟨i1,i2⟩:=bw.Ah (az.refl s1) k1 k1 (Step.refl R w β s1.boxes) h0
 refine gM (fun m a' w'=>∃ v R' β',kR rd m v=some o∧aL E R' w' β' (head.st s1 v) a'∧Step R w β s1.boxes R' w' β' (head.st s1 v).boxes) ?_ ⟨v0,_,β,hl,i1,i2⟩
 rintro m a' w' ⟨v,R',β',hm,gH,fF⟩
 cases m with
 | zero=>cases hm
 | succ m=>
  refine wpIn_mono (hr (kR rd m) v o hm R' w' β' a' F gH (hf.mono fF.ext)) ?_
  rintro e a2 w2 ⟨s2,R2,β2,⟨hK,hx⟩,uJ,xn,zD⟩
  have Ak:az s1 s2:=(head.jF s1 v).trans hx
  have st2:=fF.trans xn
  have out:gw s1 outs e s2=some o→No E R0 w β s (fun e s'=>Q e s'∧az s s') e a2 w2:=fun hu=>by
   obtain ⟨t,v',q1,q2⟩:=nN hu
   obtain ⟨j1,j2⟩:=bw.Ah Ak k1 uJ st2 q1
   exact ⟨t.st s1 v',_,β2,hQ t v' e q2,j1,k2.trans j2,k3⟩
  cases e with
  | normal=>
   obtain ⟨v',q1,q2⟩:=bind_some (show (head.dec s1 s2).bind (kR rd m)=some o from hK)
   obtain ⟨j1,j2⟩:=bw.Ah Ak k1 uJ st2 q1
   exact ⟨m,Nat.lt_succ_self m,v',_,β2,q2,j1,j2⟩
  | exit i=>exact out hK
  | ret=>exact out hK
  | goto i=>exact out hK
  | panic i=>exact out hK
  | outgrown=>exact out hK
theorem ec.NY {E:Env} {X:Type} {c:Code} {s s1:St} {gh:List (Loc × Nat × TypeId)} {head:bw} {K:Exit→St→Option X} {rd:(head.ps.T→Option X)→head.ps.T→Option X} {N:Nat} {v0:head.ps.T} {o:X}
  (hg:Am.eS gh s=some s1) (h0:head.dec s1 s1=some v0) (hr:∀ k v u,rd k v=some u→iN E c (fun e s'=>HO s1 head K k e s'=some u) (head.st s1 v))
  (hl:kR rd N v0=some o) :
  iN E (.loop c) (fun e s'=>K e s'=some o) s:=fun R0 w β a F Jq qT=>by
 obtain ⟨R,k1,k2,k3,_⟩:=gL Jq hg
 have hf:bB R s1.ro F:=by rw [k3]; exact qT.mono k2.ext
 obtain ⟨i1,i2⟩:=bw.Ah (az.refl s1) k1 k1 (Step.refl R w β s1.boxes) h0
 refine gM (fun m a' w'=>∃ v R' β',kR rd m v=some o∧aL E R' w' β' (head.st s1 v) a'∧Step R w β s1.boxes R' w' β' (head.st s1 v).boxes) ?_ ⟨v0,_,β,hl,i1,i2⟩
 rintro m a' w' ⟨v,R',β',hm,gH,fF⟩
 cases m with
 | zero=>cases hm
 | succ m=>
  refine wpIn_mono (hr (kR rd m) v o hm R' w' β' a' F gH (hf.mono fF.ext)) ?_
  rintro e a2 w2 ⟨s2,R2,β2,⟨hK,hx⟩,uJ,xn,zD⟩
  have Ak:az s1 s2:=(head.jF s1 v).trans hx
  have st2:=fF.trans xn
  have out:K e s2=some o→No E R0 w β s (fun e s'=>K e s'=some o∧az s s') e a2 w2:=fun hu=>
   ⟨s2,R2,β2,⟨hu,(jE hg).trans Ak⟩,uJ,k2.trans st2,zD.trans k3⟩
  cases e with
  | normal=>
   obtain ⟨v',q1,q2⟩:=bind_some (show (head.dec s1 s2).bind (kR rd m)=some o from hK)
   obtain ⟨j1,j2⟩:=bw.Ah Ak k1 uJ st2 q1
   exact ⟨m,Nat.lt_succ_self m,v',_,β2,q2,j1,j2⟩
  | exit i=>exact out hK
  | ret=>exact out hK
  | goto i=>exact out hK
  | panic i=>exact out hK
  | outgrown=>exact out hK
theorem sO {s s':St} {t:Tmp} {sz:Nat} {e:TypeId} {c:Bool} (h:qj s t sz e=some (c,s')):s'.G.length=s.G.length∧az s s':=by
 unfold qj at h
 repeat' (split at h)
 all_goals (first | (cases h; done) | skip)
 injection h with h
 injection h with _ h
 subst h
 exact ⟨de _ _ _,⟨⟨[_],rfl⟩,⟨[],rfl⟩,rfl⟩⟩
theorem ec.HG {E:Env} {c:Code} {s s1:St} {tq:Tmp} {sz:Nat} {ty:TypeId} {head:bw} {outs:List (XK × bw)} {rd:head.ps.T→Option (head.ps.T ⊕ JT outs)} {N:Nat} {v0:head.ps.T} {o:JT outs} {Q:Exit→St→Prop}
  (hg:qj s tq sz ty=some (true,s1)) (h0:head.dec s1 s1=some v0) (hr:∀ v r,rd v=some r→∃ s2,sK (head.st s1 v) tq sz ty=some s2∧iN E c (fun e s'=>HQ s1 head outs tq sz ty e s'=some r) s2)
  (hl:a6 rd N v0=some o) (hQ:∀ (t:bw) (v:t.ps.T) (e:Exit),(∀ (α:Type) (K:Exit→St→α),Ge s1 outs o K=K e (t.st s1 v))→Q e (t.st s1 v)∧az s (t.st s1 v)) :
  iN E (.loop c) Q s:=fun R0 w β a F Jq qT=>by
 obtain ⟨R1,cv,ro,es,k1,k2,k3,k4,k5,k6,k7,k8,k9⟩:=yl Jq hg
 have W5:R0.obj.length=s1.G.length:=by rw [Jq.g.len,(sO hg).1]
 cases N with
 | zero=>cases hl
 | succ N0=>
 obtain ⟨r0,Vm,_⟩:=bind_some (show ((rd v0).bind fun o=>Sum.elim (fun v'=>a6 rd N0 v') (fun x=>some x) o)=some o from hl)
 obtain ⟨YT,RN,_⟩:=hr v0 r0 Vm
 obtain ⟨R4,i1,i2,i3,i4,i5⟩:=ym k1 W5 (az.refl s1) (Ext.refl R1 w) (Step.refl R0 w β s.boxes) k1 k2 k7 k8 k9 h0 RN
 refine gM (fun m a' w'=>∃ v R' β' s2,a6 rd m v=some o∧sK (head.st s1 v) tq sz ty=some s2∧aL E R' w' β' s2 a'∧Step R0 w β s.boxes R' w' β' s2.boxes∧Ext R1 w R' w'∧s2.ro=s1.ro∧az s1 s2) ?_ ⟨v0,R4,β,YT,hl,RN,i1,i2,i3,i4,(head.jF s1 v0).trans i5⟩
 rintro m a' w' ⟨v,R',β',s2,hm,S9,gH,fF,hE,aR,YU⟩
 cases m with
 | zero=>cases hm
 | succ m=>
  obtain ⟨r,h1,h2⟩:=bind_some (show ((rd v).bind fun o=>Sum.elim (fun v'=>a6 rd m v') (fun x=>some x) o)=some o from hm)
  obtain ⟨s2',RQ,hw⟩:=hr v r h1
  rw [S9] at RQ
  cases RQ
  refine wpIn_mono (hw R' w' β' a' F gH (by rw [aR,k3]; exact qT.mono fF.ext)) ?_
  rintro e a2 w2 ⟨s3,R2,β2,⟨hK,hx⟩,uJ,xn,zD⟩
  have Ak:az s1 s3:=YU.trans hx
  have st2:=fF.trans xn
  have W6:=hE.trans xn.ext
  have out:∀ {u:JT outs},gw s1 outs e s3=some u→r=.inr u→No E R0 w β s (fun e s'=>Q e s'∧az s s') e a2 w2:=fun {u} hu hru=>by
   subst hru
   cases h2
   obtain ⟨t,v',q1,q2⟩:=nN hu
   obtain ⟨j1,j2,j3⟩:=bw.NK Ak k1 uJ W6 q1
   refine ⟨t.st s1 v',_,β2,hQ t v' e q2,j1,⟨⟨st2.ext.I,st2.ext.cell,fun id r hid=>?_,st2.ext.lp⟩,st2.os,st2.tape,st2.output,st2.size,st2.bl,fun b hb CO=>?_,fun b o hi hb my=>st2.im b o hi hb my⟩,k3⟩
   ·obtain ⟨r',g1,g2⟩:=st2.ext.obj id r hid
    have:=aQ hid
    exact ⟨r',gv.2 ⟨by omega,g1⟩,g2⟩
   ·rcases CO with CO | ⟨k,cs,hk,rfl⟩
    ·exact st2.own b hb (.inl (mU CO))
    ·obtain ⟨dB,fA⟩:=j3 k cs hk
     exact st2.own _ hb (.inr ⟨k,dB,fA,rfl⟩)
  cases e with
  | normal=>
   have hK:(match qj s3 tq sz ty with
    | some (c,s2)=>bif c then (head.dec s1 s2).bind fun v=>some (.inl v) else none
    | none=>none:Option (head.ps.T ⊕ JT outs))=some r:=hK
   cases hu:qj s3 tq sz ty with
   | none=>rw [hu] at hK; cases hK
   | some x=>
    obtain ⟨cc,s4⟩:=x
    rw [hu] at hK
    cases cc with
    | false=>cases hK
    | true=>
     obtain ⟨v',q1,q2⟩:=bind_some (show ((head.dec s1 s4).bind fun v=>some (.inl v))=some r from hK)
     cases q2
     obtain ⟨R3,cv3,ro3,es3,m1,m2,m3,m4,m5,m6,m7,m8,m9⟩:=yl uJ hu
     have YV:∃ s5,sK (head.st s1 v') tq sz ty=some s5:=by
      cases m with
      | zero=>cases h2
      | succ m0=>
       obtain ⟨r9,YW,_⟩:=bind_some (show ((rd v').bind fun o=>Sum.elim (fun v'=>a6 rd m0 v') (fun x=>some x) o)=some o from h2)
       obtain ⟨s9,YX,_⟩:=hr v' r9 YW
       exact ⟨s9,YX⟩
     obtain ⟨s5,W7⟩:=YV
     obtain ⟨R5,j1,j2,j3,j4,j5⟩:=ym k1 W5 (Ak.trans m4) (W6.trans m2.ext) st2 m1 m2 m7 m8 m9 q1 W7
     exact ⟨m,Nat.lt_succ_self m,v',R5,β2,s5,h2,W7,j1,j2,j3,j4,(head.jF s1 v').trans j5⟩
  | exit i=>obtain ⟨u,q1,q2⟩:=bind_some (show ((gw s1 outs (.exit i) s3).bind fun o=>some (.inr o))=some r from hK); exact out q1 (Option.some.inj q2).symm
  | ret=>obtain ⟨u,q1,q2⟩:=bind_some (show ((gw s1 outs .ret s3).bind fun o=>some (.inr o))=some r from hK); exact out q1 (Option.some.inj q2).symm
  | goto i=>obtain ⟨u,q1,q2⟩:=bind_some (show ((gw s1 outs (.goto i) s3).bind fun o=>some (.inr o))=some r from hK); exact out q1 (Option.some.inj q2).symm
  | panic i=>obtain ⟨u,q1,q2⟩:=bind_some (show ((gw s1 outs (.panic i) s3).bind fun o=>some (.inr o))=some r from hK); exact out q1 (Option.some.inj q2).symm
  | outgrown=>obtain ⟨u,q1,q2⟩:=bind_some (show ((gw s1 outs .outgrown s3).bind fun o=>some (.inr o))=some r from hK); exact out q1 (Option.some.inj q2).symm
end
def ol (E:Env):List Bool→Code→(Exit→St→Prop)→St→Prop
 | [],_,Q,s=>Q .normal s
 | true :: k,.seq x y,Q,s=>iN E x (sx (ol E k y Q) Q) s
 | false :: k,.seq x _,Q,s=>ol E k x Q s
 | _ :: _,_,_,_=>False
def jG (E:Env):List Bool→Code→(Exit→St→Prop)→St→Prop
 | [],c,Q,s=>iN E c Q s
 | true :: k,.seq _ y,Q,s=>jG E k y Q s
 | false :: k,.seq x y,Q,s=>jG E k x (sx (iN E y Q) Q) s
 | _ :: _,_,_,_=>False
def Et (F:Fence) (P:Program):List Bool→Code→(Exit→Act→World→Prop)→Act→World→Prop
 | [],c,Q,a,w=>c.wpIn F 0 P Q a w
 | true :: k,.seq _ y,Q,a,w=>Et F P k y Q a w
 | false :: k,.seq x y,Q,a,w=>Et F P k x (Exit.then (fun a' w'=>y.wpIn F 0 P Q a' w') Q) a w
 | _ :: _,_,_,_,_=>False
section Vl
variable {E:Env} {s1:St} {R:af} {w:World} {β:Nat→Nat} {F:Fence}
def At (E:Env) (s1:St) (R:af) (w:World) (β:Nat→Nat) (s:St) (a:Act) (w':World):Prop:=
 ∃ R' β',az s1 s∧aL E R' w' β' s a∧Step R w β s1.boxes R' w' β' s.boxes∧s.ro=s1.ro
theorem iN.at {c:Code} {Q:Exit→St→Prop} {s:St} {a:Act} {w':World} {Φ:Exit→Act→World→Prop} (hf:bB R s1.ro F) (h:iN E c Q s) (lf:At E s1 R w β s a w') (hQ:∀ e s' a' w',Q e s'→At E s1 R w β s' a' w'→Φ e a' w'):c.wpIn F 0 E.P Φ a w':=by
 obtain ⟨R',β',hx,hr,fF,aR⟩:=lf
 refine wpIn_mono (h R' w' β' a F hr (by rw [aR]; exact hf.mono fF.ext)) ?_
 rintro e a2 w2 ⟨s2,R2,β2,⟨hq,Ak⟩,uJ,xn,zD⟩
 exact hQ e s2 a2 w2 hq ⟨R2,β2,hx.trans Ak,uJ,fF.trans xn,zD.trans aR⟩
theorem jG.at (hf:bB R s1.ro F):∀ (k:List Bool) (c:Code) {Q:Exit→St→Prop} {s:St} {a:Act} {w':World} {Φ:Exit→Act→World→Prop},jG E k c Q s→At E s1 R w β s a w'→(∀ e s' a' w',Q e s'→At E s1 R w β s' a' w'→Φ e a' w')→Et F E.P k c Φ a w'
 | [],c,Q,s,a,w',Φ,h,lf,hQ=>iN.at hf h lf hQ
 | true :: k,c,Q,s,a,w',Φ,h,lf,hQ=>by
  cases c with
  | seq x y=>exact jG.at hf k y h lf hQ
  | _=>exact h.elim
 | false :: k,c,Q,s,a,w',Φ,h,lf,hQ=>by
  cases c with
  | seq x y=>
   refine jG.at hf k x (Q:=sx (iN E y Q) Q) h lf fun e s' a' w' hq oS=>?_
   cases e with
   | normal=>exact iN.at hf hq oS hQ
   | _=>exact hQ _ s' a' w' hq oS
  | _=>exact h.elim
theorem ol.at (hf:bB R s1.ro F):∀ (k:List Bool) (c:Code) {Q:Exit→St→Prop} {s:St} {a:Act} {w':World} {Φ:Exit→Act→World→Prop},ol E k c Q s→At E s1 R w β s a w' →
  (∀ s' a' w',Q .normal s'→At E s1 R w β s' a' w'→Et F E.P k c Φ a' w')→(∀ e s' a' w',e≠.normal→Q e s'→At E s1 R w β s' a' w'→Φ e a' w')→c.wpIn F 0 E.P Φ a w'
 | [],c,Q,s,a,w',Φ,h,lf,hS,hQ=>hS s a w' h lf
 | true :: k,c,Q,s,a,w',Φ,h,lf,hS,hQ=>by
  cases c with
  | seq x y=>
   refine wpIn_seq (iN.at hf (show iN E x (sx (ol E k y Q) Q) s from h) lf fun e s' a' w' hq oS=>?_)
   cases e with
   | normal=>exact ol.at hf k y hq oS hS hQ
   | exit i=>exact hQ _ s' a' w' (by simp) hq oS
   | ret=>exact hQ _ s' a' w' (by simp) hq oS
   | goto i=>exact hQ _ s' a' w' (by simp) hq oS
   | panic i=>exact hQ _ s' a' w' (by simp) hq oS
   | outgrown=>exact hQ _ s' a' w' (by simp) hq oS
  | _=>exact h.elim
 | false :: k,c,Q,s,a,w',Φ,h,lf,hS,hQ=>by
  cases c with
  | seq x y=>
   refine wpIn_seq (ol.at hf k x (Q:=Q) h lf hS fun e s' a' w' bW hq oS=>?_)
   cases e with
   | normal=>exact absurd rfl bW
   | exit i=>exact hQ _ s' a' w' bW hq oS
   | ret=>exact hQ _ s' a' w' bW hq oS
   | goto i=>exact hQ _ s' a' w' bW hq oS
   | panic i=>exact hQ _ s' a' w' bW hq oS
   | outgrown=>exact hQ _ s' a' w' bW hq oS
  | _=>exact h.elim
end Vl
theorem ec.Km {E:Env} {b:Code} {s s1:St} {gh:List (Loc × Nat × TypeId)} {head:bw} {outs:List (XK × bw)} {pre:St→Option (head.ps.T ⊕ JT outs)} {rd:head.ps.T→Option (head.ps.T ⊕ JT outs)} {N:Nat} {k:List Bool} {r0:head.ps.T ⊕ JT outs} {o:JT outs} {Q:Exit→St→Prop}
  (hg:Am.eS gh s=some s1) (h0:pre s1=some r0)
  (hp:∀ s2 r,pre s2=some r→ol E k b (fun e s'=>sL s1 head outs e s'=some r) s2)
  (hr:∀ v r,rd v=some r→jG E k b (fun e s'=>yn pre (sL s1 head outs) e s'=some r) (head.st s1 v))
  (hl:Sum.elim (fun v=>a6 rd N v) (fun x=>some x) r0=some o) (hQ:∀ (t:bw) (v:t.ps.T) (e:Exit),(∀ (α:Type) (K:Exit→St→α),Ge s1 outs o K=K e (t.st s1 v))→Q e (t.st s1 v)∧az s (t.st s1 v)) :
  iN E (.loop b) Q s:=fun R0 w β a F Jq qT=>by
 obtain ⟨R,k1,k2,k3,_⟩:=gL Jq hg
 have hf:bB R s1.ro F:=by rw [k3]; exact qT.mono k2.ext
 refine gM (fun n a' w'=>∃ s2 r,pre s2=some r∧Sum.elim (fun v=>a6 rd n v) (fun x=>some x) r=some o∧At E s1 R w β s2 a' w') ?_ ⟨s1,r0,h0,hl,R,β,az.refl s1,k1,Step.refl _ _ _ _,rfl⟩
 rintro n a' w' ⟨s2,r,Rs,Tw,lf⟩
 -- a way out
 have out:∀ {e:Exit} {s3:St} {a3:Act} {w3:World} {r:head.ps.T ⊕ JT outs} {n:Nat},e≠.normal→sL s1 head outs e s3=some r→Sum.elim (fun v=>a6 rd n v) (fun x=>some x) r=some o→At E s1 R w β s3 a3 w3→No E R0 w β s (fun e s'=>Q e s'∧az s s') e a3 w3:=fun {e s3 a3 w3 r n} bW hK Tw lf=>by
  obtain ⟨R3,β3,Vn,Rn,NZ,Vo⟩:=lf
  have key:∀ {u:JT outs},gw s1 outs e s3=some u→r=.inr u→No E R0 w β s (fun e s'=>Q e s'∧az s s') e a3 w3:=fun {u} hu hru=>by
   subst hru
   obtain rfl:=Option.some.inj Tw
   obtain ⟨t,v',q1,q2⟩:=nN hu
   obtain ⟨j1,j2⟩:=bw.Ah Vn k1 Rn NZ q1
   exact ⟨t.st s1 v',_,_,hQ t v' _ q2,j1,k2.trans j2,k3⟩
  cases e with
  | normal=>exact absurd rfl bW
  | exit i=>obtain ⟨u,q1,q2⟩:=bind_some (show ((gw s1 outs (.exit i) s3).bind fun o=>some (.inr o))=some r from hK); exact key q1 (Option.some.inj q2).symm
  | ret=>obtain ⟨u,q1,q2⟩:=bind_some (show ((gw s1 outs .ret s3).bind fun o=>some (.inr o))=some r from hK); exact key q1 (Option.some.inj q2).symm
  | goto i=>obtain ⟨u,q1,q2⟩:=bind_some (show ((gw s1 outs (.goto i) s3).bind fun o=>some (.inr o))=some r from hK); exact key q1 (Option.some.inj q2).symm
  | panic i=>obtain ⟨u,q1,q2⟩:=bind_some (show ((gw s1 outs (.panic i) s3).bind fun o=>some (.inr o))=some r from hK); exact key q1 (Option.some.inj q2).symm
  | outgrown=>obtain ⟨u,q1,q2⟩:=bind_some (show ((gw s1 outs .outgrown s3).bind fun o=>some (.inr o))=some r from hK); exact key q1 (Option.some.inj q2).symm
 refine ol.at hf k b (hp s2 r Rs) lf (fun s3 a3 w3 hK N1=>?_) (fun e s3 a3 w3 bW hK N1=>?_)
 ·obtain ⟨v,q1,q2⟩:=bind_some (show ((head.dec s1 s3).bind fun v=>some (.inl v))=some r from hK)
  obtain rfl:=Option.some.inj q2
  have pf:a6 rd n v=some o:=Tw
  cases n with
  | zero=>cases pf
  | succ n=>
   obtain ⟨r',h1,h2⟩:=bind_some (show ((rd v).bind fun o=>Sum.elim (fun v'=>a6 rd n v') (fun x=>some x) o)=some o from pf)
   obtain ⟨R3,β3,Vn,Rn,NZ,Vo⟩:=N1
   obtain ⟨j1,j2⟩:=bw.Ah Vn k1 Rn NZ q1
   refine jG.at hf k b (hr v r' h1) ⟨_,_,head.jF s1 v,j1,j2,rfl⟩ fun e s4 a4 w4 Qz FJ=>?_
   cases e with
   | normal=>exact ⟨n,Nat.lt_succ_self n,s4,r',Qz,h2,FJ⟩
   | exit i=>exact out (by simp) Qz h2 FJ
   | ret=>exact out (by simp) Qz h2 FJ
   | goto i=>exact out (by simp) Qz h2 FJ
   | panic i=>exact out (by simp) Qz h2 FJ
   | outgrown=>exact out (by simp) Qz h2 FJ
 ·have:=out bW hK Tw N1
  cases e with
  | normal=>exact absurd rfl bW
  | _=>exact this
theorem oU {C:fP} {ih:Qy} (hs:rT C ih) {X:Type} {f:FuncId} {K:Exit→St→Option X}:∀ (k:List Bool) (q:Nat) (c:Code) (s:St) (x:X),bj (C.D.dt f) c=true→HR ih wM f K k q c s=some x→ol C.D.toEnv k c (fun e s'=>K e s'=some x) s
 | [],_,_,_,_,_,h=>h
 | true :: k,q,c,s,x,hd,h=>by
  cases c with
  | seq a b=>
   rw [bj,Bool.and_eq_true] at hd
   refine (hs f _ a X wM lP _ s x hd.1 h).of fun e s' hq hx=>?_
   cases e with
   | normal=>exact ⟨oU hs k (2 * q+1) b s' x hd.2 hq,hx⟩
   | _=>exact ⟨hq,hx⟩
  | _=>cases h
 | false :: k,q,c,s,x,hd,h=>by
  cases c with
  | seq a b=>
   rw [bj,Bool.and_eq_true] at hd
   exact oU hs k (2 * q) a s x hd.1 h
  | _=>cases h
theorem jG.mono {E:Env}:∀ (k:List Bool) (c:Code) {Q Q':Exit→St→Prop} {s:St},(∀ e s',Q e s'→Q' e s')→jG E k c Q s→jG E k c Q' s
 | [],c,Q,Q',s,hQ,h=>ec.mono h fun e s' hh=>⟨hQ e s' hh.1,hh.2⟩
 | true :: k,c,Q,Q',s,hQ,h=>by
  cases c with
  | seq x y=>exact jG.mono k y hQ h
  | _=>exact h.elim
 | false :: k,c,Q,Q',s,hQ,h=>by
  cases c with
  | seq x y=>
   refine jG.mono k x (Q:=sx (iN E y Q) Q) (Q':=sx (iN E y Q') Q') (fun e s' hq=>?_) h
   cases e with
   | normal=>exact ec.mono hq fun e s' hh=>⟨hQ e s' hh.1,hh.2⟩
   | _=>exact hQ _ s' hq
  | _=>exact h.elim
theorem oV {C:fP} {ih:Qy} (hs:rT C ih) {X:Type} {f:FuncId}:∀ (k:List Bool) (q:Nat) (c:Code) (K:Exit→St→Option X) (s:St) (x:X),bj (C.D.dt f) c=true→Kl ih wM f k q c K s=some x→jG C.D.toEnv k c (fun e s'=>K e s'=some x) s
 | [],_,c,K,s,x,hd,h=>hs f _ c X wM lP K s x hd h
 | true :: k,q,c,K,s,x,hd,h=>by
  cases c with
  | seq a b=>
   rw [bj,Bool.and_eq_true] at hd
   exact oV hs k (2 * q+1) b K s x hd.2 h
  | _=>cases h
 | false :: k,q,c,K,s,x,hd,h=>by
  cases c with
  | seq a b=>
   rw [bj,Bool.and_eq_true] at hd
   refine jG.mono k a (fun e s' hq=>?_) (oV hs k (2 * q) a _ s x hd.1 h)
   cases e with
   | normal=>exact hs f _ b X wM lP K s' x hd.2 hq
   | _=>exact hq
  | _=>cases h
theorem By {C:fP} (Dt:∀ g e,C.HI g=some e→ax C.D.toEnv g e) (n:Nat):rT C (ev C n):=by
 induction n using Nat.strongRecOn with
 | _ n ihn=>
 cases n with
 | zero=>intro f p c X eg _ K s x _ h; cases h
 | succ n=>
  have hs:=ihn n (Nat.lt_succ_self n)
  have plain:∀ (f:FuncId) (p:Nat) (c:Code) (X:Type) (eg:Option X→Option X→Option X),sM eg→∀ (K:Exit→St→Option X) (s:St) (x:X),((∃ b,c=.loop b)→C.Bt f p=none) →
    bj (C.D.dt f) c=true→vP C (ev C n) f p c X eg K s=some x→iN C.D.toEnv c (fun e s'=>K e s'=some x) s:=by
   intro f p c X eg hm K s x gd hd h
   have yj:=Bw Dt hs hm
   have RR:=Du hs hm
   unfold vP at h
   cases c with
   | skip=>exact ec.skip ⟨h,az.refl s⟩
   | label l=>exact ec.label ⟨h,az.refl s⟩
   | exit id=>exact ec.exit ⟨h,az.refl s⟩
   | ret=>exact ec.ret ⟨h,az.refl s⟩
   | seq a b=>
    rw [bj,Bool.and_eq_true] at hd
    refine ec.seq ((hs f _ a X eg hm _ s x hd.1 h).of fun e s' hq hx=>?_)
    cases e with
    | normal=>exact (hs f _ b X eg hm _ s' x hd.2 hq).of fun e s2 ma Ak=>⟨ma,hx.trans Ak⟩
    | _=>exact ⟨hq,hx⟩
   | cond co a b=>
    rw [bj,Bool.and_eq_true] at hd
    simp only at h
    split at h
    ·rename_i t hb
     refine ec.cond hb (fun e=>?_) (fun e=>?_)
     ·subst e; exact hs f _ a X eg hm _ s x hd.1 h
     ·subst e; exact hs f _ b X eg hm _ s x hd.2 h
    ·cases h
   | block id c=>
    refine ec.block ((hs f _ c X eg hm _ s x hd h).of fun e s' hq hx=>?_)
    cases e with
    | exit gb=>
     simp only [HJ] at hq
     refine ⟨fun e=>?_,fun e=>?_⟩
     ·subst e; rw [pA] at hq; exact ⟨hq,hx⟩
     ·rw [lq e] at hq; exact ⟨hq,hx⟩
    | _=>exact ⟨hq,hx⟩
   | scope c=>
    refine ec.scope ((hs f _ c X eg hm _ s x hd h).of fun e s' hq hx=>?_)
    cases e with
    | goto l=>cases hq
    | _=>exact ⟨hq,hx⟩
   | region id ops dr=>
    cases dr with
    | false=>exact ec.region (f:=f) (yp (vV yj RR h))
    | true=>
     simp only at h
     rw [bj] at hd
     split at h
     ·rename_i pl hT
      rw [hT] at hd
      exact ec.draw (f:=f) hd (ql (ik yj RR hm h))
     ·cases h
   | loop b=>
    have Mu:=gd ⟨b,rfl⟩
    refine ec.loop (fun m s'=>m≤n+1∧ev C m f p (.loop b) X eg K s'=some x∧az s s') ?_ (m:=n+1) ⟨Nat.le_refl _,?_,az.refl s⟩
    ·rintro m s' ⟨Jh,hr,hx⟩
     cases m with
     | zero=>cases hr
     | succ m=>
      have gH:vQ C (ev C m) f p (.loop b) X eg K s'=some x:=hr
      unfold vQ at gH
      rw [Mu] at gH
      refine (ihn m (by omega) f _ b X eg hm _ s' x hd gH).of fun e s2 hq Ak=>?_
      cases e with
      | normal=>exact ⟨m,Nat.lt_succ_self m,by omega,hq,hx.trans Ak⟩
      | _=>exact ⟨hq,hx.trans Ak⟩
    ·show vQ C (ev C n) f p (.loop b) X eg K s=some x
     unfold vQ
     rw [Mu]
     exact h
   | rangeFunc g ps oN bd=>
    simp only at h
    split at h
    ·rename_i aR
     split at h
     ·rename_i hf first cap hg
      refine ec.rangeFunc (4096 * p+f) aR hg ((yj _ _ _ _ _ h).mono fun r G' hq=>?_)
      unfold U2
      split at hq
      ·rename_i busy pending fn sl nn pp aa bb dd done Da
       rw [Da]
       simp only
       obtain ⟨h1,h2⟩:=aY hq
       refine ⟨by cases busy <;> cases done <;> simp_all,?_⟩
       have Ka:∀ (G:List GO) (m:List Nat),az s ⟨s.ab,s.boxes,G,m,s.ro,s.n⟩:=fun _ _=>⟨⟨[],rfl⟩,⟨[],rfl⟩,rfl⟩
       split at h2
       ·rw [ca] at h2; exact ⟨h2,Ka _ _⟩
       ·rw [ca] at h2; exact ec.ret ⟨h2,Ka _ _⟩
       ·rw [ca] at h2; exact ec.exit ⟨h2,Ka _ _⟩
       ·cases h2
      ·cases hq
     ·cases h
    ·rename_i id aR
     split at h
     ·rename_i WO p0 WQ WR n0 WS WT WU d0 WV Vp
      split at h
      ·rename_i hf first cap hg
       refine ec.Dc (4096 * p+f) aR Vp hg ((yj _ _ _ _ _ h).mono fun r G' hq=>?_)
       unfold NL
       split at hq
       ·rename_i busy pending fn sl nn pp aa bb dd done Da
        rw [Da]
        simp only
        obtain ⟨h1,h2⟩:=aY hq
        refine ⟨by cases busy <;> cases done <;> simp_all,?_⟩
        have Ka:∀ (G:List GO) (m:List Nat),az s ⟨s.ab,s.boxes,G,m,s.ro,s.n⟩:=fun _ _=>⟨⟨[],rfl⟩,⟨[],rfl⟩,rfl⟩
        split at h2
        ·rw [ca] at h2; exact ⟨h2,Ka _ _⟩
        ·rw [ca] at h2; exact ec.ret ⟨h2,Ka _ _⟩
        ·rw [ca] at h2; exact ec.exit ⟨h2,Ka _ _⟩
        ·cases h2
       ·cases hq
      ·cases h
     ·cases h
   | _=>cases h
  intro f p c X eg hm K s x hd h
  change vQ C (ev C n) f p c X eg K s=some x at h
  unfold vQ at h
  split at h
  ·rename_i hc
   exact plain f p c X eg hm K s x (fun _=>hc) hd h
  ·rename_i ct hct
   split at h
   ·rename_i qm hc
    generalize na (gy c []) qm=outs at h
    cases G3:HL c with
    | true=>rw [G3] at h; cases h
    | false=>
    rw [G3] at h
    obtain ⟨o,h1,h2⟩:=bind_some (show (vP C (ev C n) f p c (JT outs) wM (gw s outs) s).bind (fun o=>Ge s outs o K)=some x from h)
    have hp:=plain f p c (JT outs) wM lP (gw s outs) s o (fun ⟨b,hb⟩=>by subst hb; cases G3) hd h1
    refine ec.Vf (s:=s) (Q':=fun e s'=>gw s outs e s'=some o) (ec.mono hp fun e s' hh=>⟨hh.2,hh.1⟩) fun e s' hq=>?_
    obtain ⟨t,v,q1,q2⟩:=nN hq
    exact ⟨t,v,q1,(q2 _ K).symm.trans h2,t.jF s v⟩
   ·rename_i gh qn qm hc
    split at h
    ·rename_i b
     split at h
     ·rename_i s1 hg
      generalize na (gy b []) qm=outs at h
      generalize mZ (gy b []) qn=head at h
      unfold Ms at h
      obtain ⟨v0,h0,h⟩:=bind_some h
      obtain ⟨o,hl,h⟩:=bind_some h
      refine ec.RM hg h0 (fun v r hr=>hs f _ b _ wM lP _ _ r hd hr) hl fun t v e fc=>?_
      exact ⟨(fc _ K).symm.trans h,(jE hg).trans (t.jF s1 v)⟩
     ·cases h
    ·cases h
   ·rename_i k gh qn qm hc
    split at h
    ·rename_i b
     split at h
     ·rename_i s1 hg
      generalize na (gy b []) qm=outs at h
      generalize mZ (gy b []) qn=head at h
      unfold RL at h
      obtain ⟨o,hl,h⟩:=bind_some h
      obtain ⟨r0,h0,hl⟩:=bind_some hl
      refine ec.Km hg h0 (fun s2 r hr=>oU hs k (2 * p) b s2 r hd hr) (fun v r hr=>oV hs k (2 * p) b _ _ r hd hr) hl fun t v e fc=>?_
      exact ⟨(fc _ K).symm.trans h,(jE hg).trans (t.jF s1 v)⟩
     ·cases h
    ·cases h
   ·rename_i gh qn qm hc
    split at h
    ·rename_i b
     split at h
     ·rename_i s1 hg
      generalize na (gy b []) qm=outs at h
      generalize mZ (gy b []) qn=head at h
      unfold HN at h
      obtain ⟨v0,h0,h⟩:=bind_some h
      obtain ⟨o,hl,h⟩:=bind_some h
      refine ec.NX hg h0 (fun k v u hu=>hs f _ b _ wM lP _ _ u hd hu) hl fun t v e fc=>?_
      exact ⟨(fc _ K).symm.trans h,(jE hg).trans (t.jF s1 v)⟩
     ·cases h
    ·cases h
   ·rename_i gh qn hc
    split at h
    ·rename_i b
     split at h
     ·rename_i s1 hg
      generalize mZ (gy b []) qn=head at h
      unfold HP at h
      obtain ⟨v0,h0,hl⟩:=bind_some h
      exact ec.NY hg h0 (fun k v u hu=>hs f _ b _ wM lP _ _ u hd hu) hl
     ·cases h
    ·cases h
   ·rename_i tq sz ty qn qm hc
    split at h
    ·rename_i b
     split at h
     ·rename_i cc s1 hg
      cases cc with
      | false=>cases h
      | true=>
      generalize na (gy b []) qm=outs at h
      generalize mZ (gy b []) qn=head at h
      have h:Dm C (ev C n) f p b s1 head outs tq sz ty K=some x:=h
      unfold Dm at h
      obtain ⟨v0,h0,h⟩:=bind_some h
      obtain ⟨o,hl,h⟩:=bind_some h
      refine ec.HG hg h0 (fun v r hr=>?_) hl fun t v e fc=>?_
      ·cases aR:sK (head.st s1 v) tq sz ty with
       | none=>rw [aR] at hr; cases hr
       | some s2=>
        rw [aR] at hr
        exact ⟨s2,rfl,hs f _ b _ wM lP _ _ r hd hr⟩
      ·exact ⟨(fc _ K).symm.trans h,(sO hg).2.trans (t.jF s1 v)⟩
     ·cases h
    ·cases h
   ·cases h
end Go.Am
namespace Go.Am
open Go
noncomputable def fP.fn (C:fP) (n:Nat) (g:FuncId) (ps:aG) (p:aq) (x:ps.T):Option p.T:=
 Bu C (ev C n) wM g (ps.enc x) [] (fun r _=>p.dec r)
theorem fP.bU {C:fP} (Dt:∀ g e,C.HI g=some e→ax C.D.toEnv g e) {n:Nat} {g:FuncId} {ps:aG} {p:aq} (h1:ps.under 0=true) (h2:p.under 0=true) :
  ax C.D.toEnv g ⟨ps,p,C.fn n g ps p⟩:=fun x y h=>by
 refine bP.mono (bP.of (p:=p) (Q:=fun z=>z=y) (ps.cY x h1) h2 ((nf (By Dt n) lP g _ [] _ y h).mono fun r _ hr=>⟨y,hr,rfl⟩)) ?_
 rintro r ⟨z,rfl,rfl⟩
 rfl
theorem bP.env {E E':Env} {g:FuncId} {args:List AV} {Q:AV→Prop} (hP:E.P=E'.P) (hg:E.cG=E'.cG) (h:bP E g args Q) (uD:E.lo=E'.lo:=by rfl) (RS:E.gx=E'.gx:=by rfl):bP E' g args Q:=by
 have go:∀ {R:af} {w:World} {x:Nat} {cs:List AV},kj E R w x cs↔kj E' R w x cs:=fun {R w x cs}=>by unfold kj; rw [RS]
 have Ah:∀ {R:af} {w:World} {G:List GO},dO E R w G↔dO E' R w G:=fun {R w G}=>
  ⟨fun h=>⟨h.len,h.obj,h.inj,h.wf,fun g cs hh=>go.1 (h.cG g cs (by rw [hg]; exact hh)),by rw [← uD]; exact h.lo⟩,fun h=>⟨h.len,h.obj,h.inj,h.wf,fun g cs hh=>go.2 (h.cG g cs (by rw [← hg]; exact hh)),by rw [uD]; exact h.lo⟩⟩
 intro G
 obtain ⟨h1,h2⟩:=h G
 rw [hP] at h1 h2
 refine ⟨h1,fun R w cs hr hl=>(h2 R w cs (Ah.2 hr) hl).mono fun e w' he=>?_⟩
 cases e with
 | returned c=>obtain ⟨r,G',R',k1,k2,k3,k4⟩:=he; exact ⟨r,G',R',k1,k2,Ah.1 k3,k4⟩
 | panicked c=>exact he
 | outgrown=>exact he
theorem bP.more {E E':Env} {g:FuncId} {args:List AV} {Q:AV→Prop} (hP:E.P=E'.P) (hg:∀ g cs,E.cG g=some cs→E'.cG g=some cs) (h:bP E g args Q) (uD:E.lo=E'.lo:=by rfl) (RS:E.gx=fun _=>false:=by rfl):bP E' g args Q:=by
 intro G
 obtain ⟨h1,h2⟩:=h G
 rw [hP] at h1 h2
 refine ⟨h1,fun R w cs hr hl=>(h2 R w cs ⟨hr.len,hr.obj,hr.inj,hr.wf,fun g cs hh=>⟨(hr.cG g cs (hg g cs hh)).1,fun hx=>by rw [RS] at hx; cases hx⟩,by rw [uD]; exact hr.lo⟩ hl).mono fun e w' he=>?_⟩
 cases e with
 | returned c=>
  obtain ⟨r,G',R',k1,k2,k3,k4⟩:=he
  exact ⟨r,G',R',k1,k2,⟨k3.len,k3.obj,k3.inj,k3.wf,fun g cs hh=>(hr.cG g cs hh).mono k4.ext,by rw [← uD]; exact k3.lo⟩,k4⟩
 | panicked c=>exact he
 | outgrown=>exact he
def Dv:List (Nat × a8)→FuncId→Option a8
 | [],_=>none
 | (a,e) :: l,g=>bif Nat.beq a g then some e else Dv l g
theorem bD {E:Env}:∀ {l:List (Nat × a8)},(∀ a e,(a,e)∈l→ax E a e)→∀ g e,Dv l g=some e→ax E g e
 | [],_,g,e,h=>by cases h
 | (a,x) :: l,hl,g,e,h=>by
  unfold Dv at h
  cases hb:Nat.beq a g with
  | true=>
   rw [hb] at h
   cases h
   rw [← Nat.eq_of_beq_eq_true hb]
   exact hl a _ (by simp)
  | false=>
   rw [hb] at h
   exact bD (fun a e hm=>hl a e (by simp [hm])) g e h
def Mw:List (Nat × dR)→Nat→Option dR
 | [],_=>none
 | (a,c) :: l,p=>bif Nat.beq a p then some c else Mw l p
def Mx:List (Nat × List (Nat × dR))→FuncId→Nat→Option dR
 | [],_,_=>none
 | (a,c) :: l,g,p=>bif Nat.beq a g then Mw c p else Mx l g p
def Eu:Option Unit→Option Unit→Option Unit
 | some _,some _=>some ()
 | _,_=>none
theorem Dw:sM Eu:=fun a b x h=>by
 cases a <;> cases b <;> first | (cases h; done) | exact ⟨rfl,rfl⟩
theorem il {C:fP} (Dt:∀ g e,C.HI g=some e→ax C.D.toEnv g e) {n:Nat} {g:FuncId} {args:List AV} {p:aq} {ok:p.T→Bool} (h1:aC 0 args=true) (h2:p.under 0=true)
  (h:Bu C (ev C n) Eu g args [] (fun r _=>bif p.fits r&&ok (p.bc r) then some () else none)=some ()):bP C.D.toEnv g args (fun r=>∃ y,r=p.enc y∧ok y=true):=
 bP.of (p:=p) (Q:=fun y=>ok y=true) h1 h2 ((nf (By Dt n) Dw g args [] _ () h).mono fun r _ hr=>by
  obtain ⟨k,_⟩:=aY hr
  rw [Bool.and_eq_true] at k
  exact ⟨p.bc r,by simp [aq.dec,k.1],k.2⟩)
end Go.Am
