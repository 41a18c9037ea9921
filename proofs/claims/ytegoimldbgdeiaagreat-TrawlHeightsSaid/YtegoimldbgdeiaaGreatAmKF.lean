/- The abstract machine: an evaluator of code on states with leaves. -/
import Derived.Test.YtegoimldbgdeiaaGreatAmKE
import Derived.KernelRfl
import GoSem.ClaimJoined
import Derived.Below
import Derived.ChangeSame
import Derived.Carry
import Derived.RowKit
import Derived.FnData
import Derived.Lib.Builder
import Derived.Lib.UnsafeStr
import Derived.IntWalk
import Derived.Shelf.Spec.SlicesGrow
import Derived.Shelf.Slices.Clone
import Derived.Shelf.SlicesE.Clone
set_option linter.all false
open Bool renaming and_eq_true->aad, or_eq_true->acM
open Classical renaming propDecidable->ab5
open Go.Builtin renaming zeroCells->aaS
open Go.DataW renaming trod->aba, TrodAll->acf
open Go.Field renaming offset->adh
open Go.Value renaming oneCell'->ab7, okWide->ab9, int->adl
open List renaming map_cons->aag, getElem?_eq_getElem->aaL, map->aaN, mem_cons->aa5, getElem?_range->ab3, range->ab6, getElem?_map->acd, drop_zero->acJ, drop_eq_getElem_cons->acK, length_map->acN, drop_eq_nil_of_le->acP
open Nat renaming eq_of_beq_eq_true->aaK, le_refl->aaR, beq->abk, zero_le->abN, lt_succ_self->ab1, ble_eq_true_of_le->aca, zero_mul->aci, zero_add->acu, le_add_left->acO, blt->acV, le_of_ble_eq_true->acW, sub_zero->adj
open Option renaming bind_some->acL
open Option.some renaming inj->aaJ
open Prod renaming fst->acg
open Sum renaming elim->abC, elim_inl->acq
namespace Go.Am
open Go
variable {X H α:Type}{E E':Env}{f g:FuncId}{s:St}{o:Oper}{R:ak}{w w':World}{gh:List (Loc×Nat×TypeId)}{head:dh}{K K':St->Prop}{t e:TypeId}{args acB qK:List AV}{b:Code}{ps:List aF}{p:SV}{v:Value}{G:List GO}{Q Q':Exit->St->Prop}{d:DataW H}{l left:List Nat}{ops:List Oper}{pe:aF}{T:DT}{pl:List MemPlace}{Φ:Exit->Act->World->Prop}{a:Option α}{v0:head.ps.T}
structure bJ where
 ps:a6
 p:aF
 T:ps.T->Option p.T
def aK (E:Env) (g:FuncId) (e:bJ):Prop:=∀ x y,e.T x=some y->cw E g (e.ps.enc x) (λ r=>r=e.p.enc y)
inductive XK
 |norm
 |ret
 |ex (id:Nat)
variable {outs:List (XK×dh)}
def XK.is:XK->Exit->Bool
 |.norm,.normal=>true
 |.ret,.ret=>true
 |.ex i,.exit j=>abk i j
 |_,_=>false
def XK.exit:XK->Exit
 |.norm=>.normal
 |.ret=>.ret
 |.ex i=>.exit i
def XK.Py {k:XK} {e:Exit} (h:k.is e=true):e=k.exit:=by
 cases k <;> cases e <;> simp_all [XK.is,XK.exit]
def JT:List (XK×dh)->Type
 |[]=>Empty
 |[x]=>x.2.ps.T
 |x::y::l=>x.2.ps.T⊕JT (y::l)
variable {rd:head.ps.T->Option (head.ps.T⊕JT outs)}{pre:St->Option (head.ps.T⊕JT outs)}{r0:head.ps.T⊕JT outs}
def qu (s:St):(outs:List (XK×dh))->Exit->St->Option (JT outs)
 |[],_,_=>none
 |[x],e,s'=>bif x.1.is e then x.2.dec s s' else none
 |x::y::l,e,s'=>bif x.1.is e then (x.2.dec s s').bind λ v=>some (.inl v) else (qu s (y::l) e s').bind λ o=>some (.inr o)
def XH {α:Type} (s:St):(outs:List (XK×dh))->JT outs->(Exit->St->α)->α
 |[],o,_=>Empty.rec (λ _=>α) o
 |[x],o,K=>K x.1.exit (x.2.st s o)
 |x::y::l,o,K=>abC (λ v=>K x.1.exit (x.2.st s v)) (λ o=>XH s (y::l) o K) o
inductive dF
 |loop (gh:List (Loc×Nat×TypeId)) (head:dh) (outs:List (XK×dh))
 |join (outs:List (XK×dh))
 |rot (k:List Bool) (gh:List (Loc×Nat×TypeId)) (head:dh) (outs:List (XK×dh))
 |PF (n:Nat) (a b:dF)
 |gw (gh:List (Loc×Nat×TypeId)) (head:dh) (outs:List (XK×dh))
 |acz (gh:List (Loc×Nat×TypeId)) (head:dh)
 |akc (t:Tmp) (sz:Nat) (e:TypeId) (head:dh) (outs:List (XK×dh))
def US (n:Nat):dF->dF
 |.PF m a b=>bif abk n m then US n a else US n b
 |c=>c
def ao {V X:Type} (rd:V->Option (V⊕X)):Nat->V->Option X
 |0,_=>none
 |n+1,v=>(rd v).bind λ o=>abC (λ v'=>ao rd n v') (λ x=>some x) o
def gw {V X:Type} (rd:(V->Option X)->V->Option X):Nat->V->Option X
 |0,_=>none
 |n+1,v=>rd (gw rd n) v
structure xF (E:Env) (g:FuncId) where
 f:List AV->List GO->Option (Bool×AV×List GO)
 ok:∀ args G r G',f args G=some (true,r,G')->eI E g args G (λ r' FM=>r'=r/\FM=G')
structure ob (E:Env) (g:FuncId) where
 ps:a6
 outs:List RF
 T:ps.T->Option (XT outs)
 ok:∀ x y,T x=some y->tj E g (ps.enc x) outs (λ z=>z=y)
structure jj where
 D:aeF
 NU:FuncId->Option bJ
 Ex:FuncId->Nat->Option dF
 fz:Bool
 N:Nat
 gt:(g:FuncId)->Option (xF D.toEnv g):=λ _=>none
 xt:(g:FuncId)->Option (ob D.toEnv g):=λ _=>none
def yi {α:Type} (fz:Bool) (s:St) (K:St->α):α:=match fz with
 |true=>NF s K
 |false=>match s with
  |⟨sl,bx,G,m,ro,n⟩=>K ⟨sl,bx,G,m,ro,n⟩
def fE (fz:Bool) (s:St) (K:St->α):yi fz s K=K s:=by
 cases fz
 .rfl
 .exact Rz s K
abbrev uV (X:Type):=FuncId->List AV->List GO->(AV->List GO->Option X)->Option X
abbrev qY (X:Type):=Nat->List AV->List GO->(Bool->List GO->Option X)->Option X
section ev
def II (E:Env) (s:St) (o:Oper):Option (Int×Nat×(Nat->Oper)):=match o.op with
 |.index t x (.tmp y)=>match cK E s.ae (.tmp y),E.ti t with
  |.v (.int k n),some i=>match i.k with
   |.arr len _ _=>some (n,len,λ j=>{ o with op:=.index t x (.const (.int k j)) })
   |_=>none
  |_,_=>none
 |.indexAddr t x (.tmp y)=>match cK E s.ae (.tmp y),E.ti t with
  |.v (.int k n),some i=>match i.k with
   |.arr len _ _=>match cK E s.ae x with
    |.v (.ep _)=>match E.elp t with
     |some _=>none
     |none=>some (n,len,λ j=>{ o with op:=.indexAddr t x (.const (.int k j)) })
    |_=>some (n,len,λ j=>{ o with op:=.indexAddr t x (.const (.int k j)) })
   |_=>none
  |_,_=>none
 |_=>none
def CU (E:Env) (fz:Bool) (f:FuncId) (g:Nat->Oper) (n:Int) (K:St->Option X) (s:St):Nat->Nat->Option X
 |0,_=>none
 |m+1,j=>bif decide (n=(j:Int)) then (match aA E f s (g j) with
   |some (c,s')=>bif c then yi fz s' K else none
   |_=>none) else CU E fz f g n K s m (j+1)
def oOp (E:Env) (fz:Bool) (call:uV X) (qH:qY X) (f:FuncId) (o:Oper) (K:St->Option X) (s:St):Option X:=
 match o.op with
 |.call { callee:=.value x,args,.. }=>match cK E s.ae x,uk E s.ae args.toList with
  |.v (.fn g first cap),some l=>call g (first++l++cap) s.G (λ r G'=>yi fz ((s.cM G').put o.dst (.v r)) K)
  |.v (.yield id),some l=>qH id l s.G (λ b G'=>yi fz ((s.cM G').put o.dst (.v (.bool b))) K)
  |_,_=>none
 |.defer _=>none
 |.next x true=>match UN s o.dst (cK E s.ae x) with
  |some (b,s1,s2)=>bif b then yi fz s1 K else yi fz s2 K
  |none=>none
 |.lookup t m k ok=>match CS E s t (cK E s.ae m) (cK E s.ae k) with
  |some (c,v,b)=>bif c then yi fz (s.put o.dst (.v (if ok then .cD [v,.bool b] else v))) K else none
  |none=>match aA E f s o with
   |some (c,s')=>bif c then yi fz s' K else none
   |_=>none
 |.mapUpdate t m k x=>match o.dst,Es E s t (cK E s.ae m) (cK E s.ae k) (cK E s.ae x) with
  |none,some (c,s')=>bif c then yi fz s' K else none
  |_,_=>none
 |.call { callee:=.builtin .append,args,argTypes }=>match uk E s.ae args.toList with
  |some l=>match IC E s o.dst l argTypes.toList with
   |some (b,s1,c,s2)=>bif b then yi fz s1 K else bif c then yi fz s2 K else none
   |none=>match aA E f s o with
    |some (c,s')=>bif c then yi fz s' K else none
    |_=>none
  |none=>none
 |_=>match II E s o with
  |some (n,len,g)=>CU E fz f g n K s len 0
  |none=>match aA E f s o with
   |some (c,s')=>bif c then yi fz s' K else none
   |_=>none
def uW (E:Env) (fz:Bool) (call:uV X) (qH:qY X) (f:FuncId) (ops:List Oper) (o:Oper) (K:St->Option X) (s:St):Option X:=
 match o.guard with
 |none=>oOp E fz call qH f o K s
 |some (j,want)=>match uI ops j with
  |none=>none
  |some d=>match lk s.ae d with
   |.v (.bool b)=>match want with
    |true=>bif b then yi fz (s.put (some d) (.v (.bool true))) (oOp E fz call qH f o K) else yi fz ((s.put (some d) (.v (.bool false))).put o.dst (.v jM)) K
    |false=>bif b then yi fz ((s.put (some d) (.v (.bool true))).put o.dst (.v jM)) K else yi fz (s.put (some d) (.v (.bool false))) (oOp E fz call qH f o K)
   |.v (.cD [])=>yi fz (s.put o.dst (.v jM)) K
   |_=>none
def IJ (E:Env) (fz:Bool) (call:uV X) (qH:qY X) (f:FuncId) (ops:List Oper) (o:Oper) (K:St->Option X) (s:St):Option X:=
 match o.guard,np E f s o with
 |none,some s'=>yi fz s' K
 |_,_=>uW E fz call qH f ops o K s
noncomputable def KW {X:Type} (l:List Nat) (F:Nat->Option X):Option X:=match l with
 |[]=>none
 |i::r=>@ite _ (∀ j∈r,F j=F i) (ab5 _) (F i) none
def RJ {X:Type} {F:Nat->Option X} {x:X} (h:KW l F=some x):∀ i∈l,F i=some x:=by
 cases l with
 |nil=>cases h
 |cons i r=>
  have h:@ite _ (∀ j∈r,F j=F i) (ab5 _) (F i) none=some x:=h;by_cases hr:∀ j∈r,F j=F i
  .rw [if_pos hr] at h;intro j hj;rcases aa5.1 hj with rfl|hj
   .exact h
   .rw [hr j hj]; exact h
  .rw [if_neg hr] at h;cases h
def zj {X:Type} {F:Nat->Option X} {x:X} (hl:l≠[]) (h:∀ i∈l,F i=some x):KW l F=some x:=by
 cases l with
 |nil=>exact absurd rfl hl
 |cons i r=>
  show @ite _ (∀ j∈r,F j=F i) (ab5 _) (F i) none=some x;have hr:∀ j∈r,F j=F i:=λ j hj=>by rw [h j (List.mem_cons_of_mem _ hj),h i List.mem_cons_self]
  rw [if_pos hr];exact h i List.mem_cons_self
noncomputable def CV (E:Env) (fz:Bool) (call:uV X) (qH:qY X) (f:FuncId) (ops:List Oper) (o:Oper) (K:St->Option X) (s:St):Option X:=
 match o.guard,JN E f s o,AB E s o with
 |none,some (c,s'),_=>bif c then yi fz s' K else none
 |none,none,some (c,s0,left,g)=>bif c then (bif left.isEmpty then yi fz s0 K else KW left λ i=>bif (g i).1 then yi fz (g i).2 K else none) else none
 |_,_,_=>IJ E fz call qH f ops o K s
noncomputable def IK (E:Env) (fz:Bool) (call:uV X) (qH:qY X) (f:FuncId) (ops:List Oper) (o:Oper) (K:St->Option X) (s:St):Option X:=
 match QY E f s o with
 |some (c,s')=>bif c then CV E fz call qH f ops o K s' else none
 |none=>CV E fz call qH f ops o K s
noncomputable def YG (E:Env) (fz:Bool) (call:uV X) (qH:qY X) (f:FuncId) (ops:List Oper):List Oper->(St->Option X)->St->Option X
 |[],K,s=>K s
 |o::rest,K,s=>IK E fz call qH f ops o (λ s'=>match GP E f o s' with
  |some (c,s2)=>bif c then YG E fz call qH f ops rest K s2 else none
  |none=>none) s
def aeR (E:Env) (f:FuncId) (ops:List Oper) (o:Oper) (s:St):Bool:=match o.op,o.dst with
 |.lookup t m k ok,some d=>match JE ops s o,CS E s t (cK E s.ae m) (cK E s.ae k) with
  |some true,some (c,v,b)=>c&&Ir (.v (if ok then .cD [v,.bool b] else v)) (lk s.ae d)
  |_,_=>bRe E f ops o s
 |_,_=>bRe E f ops o s
def vQ (E:Env) (f:FuncId) (ops:List Oper):List Nat->St->Bool
 |[],_=>true
 |k::l,s=>(match nth ops k with
  |some ok=>aeR E f ops ok s
  |none=>true)&&vQ E f ops l s
def oT (E:Env) (fz:Bool) (call:uV X) (qH:qY X) (iK:Option X->Option X->Option X) (f:FuncId) (ops:List Oper):DT->(St->Option X)->St->Option X
 |.done,K,s=>K s
 |.take j _ t,K,s=>match nth ops j with
  |some oj=>uW E fz call qH f ops oj (oT E fz call qH iK f ops t K) s
  |none=>none
 |.br i re _ t .stop,K,s=>match nth ops i with
  |some oi=>uW E fz call qH f ops oi (λ s'=>bif vQ E f ops re s' then oT E fz call qH iK f ops t K s' else none) s
  |none=>none
 |.br i re _ t more,K,s=>iK (match nth ops i with
  |some oi=>uW E fz call qH f ops oi (λ s'=>bif vQ E f ops re s' then oT E fz call qH iK f ops t K s' else none) s
  |none=>none) (oT E fz call qH iK f ops more K s)
 |.stop,_,_=>none
 |.al j W t,K,s=>match nth ops j with
  |some oj=>bif aey E f oj W s then uW E fz call qH f ops oj (oT E fz call qH iK f ops t K) s else none
  |none=>none
end ev
def G6 {X:Type} (N:St->Option X) (Q:Exit->St->Option X):Exit->St->Option X
 |.normal,s=>N s
 |e,s=>Q e s
def UT {X:Type} (id:Nat) (Q:Exit->St->Option X):Exit->St->Option X
 |.exit nV,s=>bif abk nV id then Q .normal s else Q (.exit nV) s
 |e,s=>Q e s
def aeS {X:Type} (Q:Exit->St->Option X):Exit->St->Option X
 |.goto _,_=>none
 |e,s=>Q e s
def UU {X:Type} (E:Env) (fn:Func) (K:AV->List GO->Option X):Exit->St->Option X
 |.normal,s | .ret,s=>match uK s.marks s.G with
  |some G=>match Up E (s.cM G) fn with
   |some r=>K r G
   |none=>none
  |none=>none
 |_,_=>none
def BO (s:St) (head:dh) (outs:List (XK×dh)):Exit->St->Option (head.ps.T⊕JT outs)
 |.normal,s'=>(head.dec s s').bind λ v=>some (.inl v)
 |e,s'=>(qu s outs e s').bind λ o=>some (.inr o)
noncomputable def CW {X:Type} (a b:Option X):Option X:=@ite _ (a=b) (ab5 _) a none
def KX {X:Type} (a:Option X):CW a a=a:=by unfold CW; rw [if_pos rfl]
def BP {X:Type} (iK:Option X->Option X->Option X):Prop:=∀ a b x,iK a b=some x->a=some x/\b=some x
def NV {X:Type} (id:Nat) (K:Bool->List GO->Option X):Exit->St->Option X:=λ e s=>match nth s.G id with
 |some (.loop _ _ fn sl n ps xz bd d _)=>match e with
  |.normal=>K true (aC s.G id (.loop false none fn sl n ps xz bd d false))
  |.ret=>K false (aC s.G id (.loop false (some .ret) fn sl n ps xz bd d true))
  |.exit i=>K false (aC s.G id (.loop false (some (.exit i)) fn sl n ps xz bd d true))
  |_=>none
 |_=>none
def fpF (fp:Nat):Nat:=fp % 4096
def fpP (fp:Nat):Nat:=fp / 4096
abbrev EvT:=FuncId->Nat->Code->(X:Type)->(Option X->Option X->Option X)->(Exit->St->Option X)->St->Option X
section
variable (C:jj) (ih:EvT)
def G7 {X:Type} (iK:Option X->Option X->Option X):uV X:=λ g args G K=>
 bif C.D.okF g then match C.D.P.funcs[g]? with
   |some fn=>match fn.body with
    | some b => bif !(fn.name == "runtime.NumGoroutine") then ih g 1 b X iK (UU C.D.toEnv fn (bif C.D.FP g 131072 then aeM C.D.toEnv (C.D.FP g 131073) (C.D.FP g 131074) fn.resultTypes.toList K else K)) (St.init fn.ntmps args G) else none
    |none=>none
   |none=>none
  else none
def G8 {X:Type} (iK:Option X->Option X->Option X):uV X:=λ g args G K=>
 match C.NU g with
 |some e=>(e.ps.dec args).bind λ x=>(e.T x).bind λ y=>K (e.p.enc y) G
 |none=>match C.gt g with
  |some e=>match e.f args G with
   |some (c,r,G')=>bif c then K r G' else none
   |none=>none
  |none=>match C.xt g with
   |some e=>(e.ps.dec args).bind λ x=>(e.T x).bind λ o=>goX G K e.outs o
   |none=>G7 C ih iK g args G K
def YH (n:Nat):List Tmp->Bool
 |[]=>true
 |t::l=>acV t n&&YH n l
def YI {X:Type} (iK:Option X->Option X->Option X):qY X:=λ id args G K=>match nth G id with
 |some (.loop false _ fp sl n ps xz bd _ false)=>
  bif abk args.length ps.length&&YH n ps&&cI (C.D.dt (fpF fp)) xz&&cI (C.D.dt (fpF fp)) bd then
   ih (fpF fp) (2*fpP fp) xz X iK (λ e s1=>match e with
    |.normal=>match nth s1.G id with
     |some (.loop false p fn sl n ps xz bd' d false)=>ih (fpF fp) (2*fpP fp+1) bd X iK (NV id K) (s1.cM (aC s1.G id (.loop true p fn sl n ps xz bd' d false)))
     |_=>none
    |_=>none) (St.round id (Eo ps args sl) n G)
  else none
 |_=>none
noncomputable def Ey (f:FuncId) (p:Nat) (c:Code) (X:Type) (iK:Option X->Option X->Option X) (K:Exit->St->Option X) (s:St):Option X:=
 match c with
 |.skip=>K .normal s
 |.label _=>K .normal s
 |.seq x y=>ih f (2*p) x X iK (G6 (ih f (2*p+1) y X iK K) K) s
 |.cond c x y=>match cK C.D.toEnv s.ae c with
  |.v (.bool b)=>bif b then ih f (2*p) x X iK K s else ih f (2*p+1) y X iK K s
  |_=>none
 |.block id c=>ih f (2*p) c X iK (UT id K) s
 |.exit id=>K (.exit id) s
 |.ret=>K .ret s
 |.region _ ops false=>YG C.D.toEnv C.fz (G8 C ih iK) (YI C ih iK) f ops.toList ops.toList (K .normal) s
 |.region id ops true=>match C.D.dt f id with
  |some pl=>oT C.D.toEnv C.fz (G8 C ih iK) (YI C ih iK) iK f ops.toList pl.T (K .normal) s
  |none=>none
 |.scope c=>ih f (2*p) c X iK (aeS K) s
 |.loop c=>ih f (2*p) c X iK (G6 (ih f p (.loop c) X iK K) K) s
 |.rangeFunc g ps xz bd=>match s.ro with
  |none=>match cK C.D.toEnv s.ae g with
   |.v (.fn h first cap)=>G8 C ih iK h (first++[.yield (s.G.length+1)]++cap) (s.G++[.defers true]++[.loop false none (4096*p+f) (iV s.ae) s.n ps.toList xz bd s.G.length false])
    (λ _ G'=>match nth G' (s.G.length+1) with
     |some (.loop busy pending _ _ _ _ _ _ _ done)=>bif !busy || done then
       match pending with
       |none=>yi C.fz ⟨s.ae,s.boxes,aC G' (s.G.length+1) .dead,s.G.length::s.marks,s.ro,s.n⟩ (K .normal)
       |some .ret=>yi C.fz ⟨s.ae,s.boxes,aC G' (s.G.length+1) .dead,s.G.length::s.marks,s.ro,s.n⟩ (K .ret)
       |some (.exit i)=>yi C.fz ⟨s.ae,s.boxes,aC G' (s.G.length+1) .dead,s.G.length::s.marks,s.ro,s.n⟩ (K (.exit i))
       |_=>none
      else none
     |_=>none)
   |_=>none
  |some id=>match nth s.G id with
   |some (.loop _ _ _ _ _ _ _ _ d0 _)=>match cK C.D.toEnv s.ae g with
    |.v (.fn h first cap)=>G8 C ih iK h (first++[.yield s.G.length]++cap) (s.G++[.loop false none (4096*p+f) (iV s.ae) s.n ps.toList xz bd d0 false])
     (λ _ G'=>match nth G' s.G.length with
      |some (.loop busy pending _ _ _ _ _ _ _ done)=>bif !busy || done then
        match pending with
        |none=>yi C.fz ⟨s.ae,s.boxes,aC G' s.G.length .dead,s.marks,s.ro,s.n⟩ (K .normal)
        |some .ret=>yi C.fz ⟨s.ae,s.boxes,aC G' s.G.length .dead,s.marks,s.ro,s.n⟩ (K .ret)
        |some (.exit i)=>yi C.fz ⟨s.ae,s.boxes,aC G' s.G.length .dead,s.marks,s.ro,s.n⟩ (K (.exit i))
        |_=>none
       else none
      |_=>none)
    |_=>none
   |_=>none
 |_=>none
def NW:List Oper->List Tmp
 |[]=>[]
 |o::l=>match o.dst with
  |some d=>d::NW l
  |none=>NW l
def lX:Code->List Tmp->List Tmp
 |.region _ ops _,r=>NW ops.toList++r
 |.seq x y,r=>lX x (lX y r)
 |.cond _ x y,r=>lX x (lX y r)
 |.block _ c,r=>lX c r
 |.scope c,r=>lX c r
 |.loop c,r=>lX c r
 |.rangeFunc _ ps a b,r=>ps.toList++lX a (lX b r)
 |_,r=>r
def uX (W:List Tmp) (t:dh):dh:=⟨t.ps,t.sl,W,t.bx,t.g,t.lps⟩
def uY (W:List Tmp):List (XK×dh)->List (XK×dh)
 |[]=>[]
 |(k,t)::l=>(k,uX W t)::uY W l
def UW:Code->Bool
 |.loop _=>true
 |_=>false
noncomputable def akd {X:Type} (f:FuncId) (p:Nat) (c:Code) (outs:List (XK×dh)) (K:Exit->St->Option X) (s:St):Option X:=
 (Ey C ih f p c (JT outs) CW (qu s outs) s).bind λ o=>XH s outs o K
noncomputable def acA {X:Type} (f:FuncId) (p:Nat) (b:Code) (s1:St) (head:dh) (outs:List (XK×dh)) (K:Exit->St->Option X):Option X:=
 (head.dec s1 s1).bind λ v0=>(ao (λ v=>ih f (2*p) b (head.ps.T⊕JT outs) CW (BO s1 head outs) (head.st s1 v)) C.N v0).bind λ o=>XH s1 outs o K
def UX (s:St) (head:dh) (outs:List (XK×dh)) (k:head.ps.T->Option (JT outs)):Exit->St->Option (JT outs)
 |.normal,s'=>(head.dec s s').bind k
 |e,s'=>qu s outs e s'
noncomputable def UY {X:Type} (f:FuncId) (p:Nat) (b:Code) (s1:St) (head:dh) (outs:List (XK×dh)) (K:Exit->St->Option X):Option X:=
 (head.dec s1 s1).bind λ v0=>(gw (λ k v=>ih f (2*p) b (JT outs) CW (UX s1 head outs k) (head.st s1 v)) C.N v0).bind λ o=>XH s1 outs o K
def UZ {X:Type} (s:St) (head:dh) (K:Exit->St->Option X) (k:head.ps.T->Option X):Exit->St->Option X
 |.normal,s'=>(head.dec s s').bind k
 |e,s'=>K e s'
noncomputable def U0 {X:Type} (f:FuncId) (p:Nat) (b:Code) (s1:St) (head:dh) (K:Exit->St->Option X):Option X:=
 (head.dec s1 s1).bind λ v0=>gw (λ k v=>ih f (2*p) b X CW (UZ s1 head K k) (head.st s1 v)) C.N v0
noncomputable def NX {X:Type} (f:FuncId) (p:Nat) (b:Code) (s1:St) (head:dh) (outs:List (XK×dh)) (t:Tmp) (sz:Nat) (e:TypeId) (K:Exit->St->Option X):Option X:=(λ _ _=>none) C ih
def U1 {X:Type} (iK:Option X->Option X->Option X) (f:FuncId) (K:Exit->St->Option X):List Bool->Nat->Code->St->Option X
 |[],_,_,s=>K .normal s
 |true::k,q,.seq x y,s=>ih f (2*q) x X iK (G6 (U1 iK f K k (2*q+1) y) K) s
 |false::k,q,.seq x _,s=>U1 iK f K k (2*q) x s
 |_::_,_,_,_=>none
def YJ {X:Type} (iK:Option X->Option X->Option X) (f:FuncId):List Bool->Nat->Code->(Exit->St->Option X)->St->Option X
 |[],q,c,K,s=>ih f q c X iK K s
 |true::k,q,.seq _ y,K,s=>YJ iK f k (2*q+1) y K s
 |false::k,q,.seq x y,K,s=>YJ iK f k (2*q) x (G6 (ih f (2*q+1) y X iK K) K) s
 |_::_,_,_,_,_=>none
noncomputable def ake {X:Type} (f:FuncId) (p:Nat) (b:Code) (k:List Bool) (s1:St) (head:dh) (outs:List (XK×dh)) (K:Exit->St->Option X):Option X:=
 ((U1 ih CW f (BO s1 head outs) k (2*p) b s1).bind λ r0=>
  abC (λ v0=>ao (λ v=>YJ ih CW f k (2*p) b (G6 (U1 ih CW f (BO s1 head outs) k (2*p) b) (BO s1 head outs)) (head.st s1 v)) C.N v0) (λ x=>some x) r0).bind λ o=>XH s1 outs o K
noncomputable def Ez (f:FuncId) (p:Nat) (c:Code) (X:Type) (iK:Option X->Option X->Option X) (K:Exit->St->Option X) (s:St):Option X:=
 match C.Ex f p with
 |none=>Ey C ih f p c X iK K s
 |some ct=>match US s.G.length ct with
  |.join outs=>bif UW c then none else akd C ih f p c (uY (lX c []) outs) K s
  |.loop gh head outs=>match c with
   |.loop b=>match jQ gh s with
    |some s1=>acA C ih f p b s1 (uX (lX b []) head) (uY (lX b []) outs) K
    |none=>none
   |_=>none
  |.rot k gh head outs=>match c with
   |.loop b=>match jQ gh s with
    |some s1=>ake C ih f p b k s1 (uX (lX b []) head) (uY (lX b []) outs) K
    |none=>none
   |_=>none
  |.gw gh head outs=>match c with
   |.loop b=>match jQ gh s with
    |some s1=>UY C ih f p b s1 (uX (lX b []) head) (uY (lX b []) outs) K
    |none=>none
   |_=>none
  |.acz gh head=>match c with
   |.loop b=>match jQ gh s with
    |some s1=>U0 C ih f p b s1 (uX (lX b []) head) K
    |none=>none
   |_=>none
  |.akc t sz e head outs=>match c with
   |.loop b=>match akb s t sz e with
    |some (cc,s1)=>bif cc then NX C ih f p b s1 (uX (lX b []) head) (uY (lX b []) outs) t sz e K else none
    |none=>none
   |_=>none
  |.PF _ _ _=>none
end
noncomputable def ev (C:jj):Nat->EvT:=Nat.rec (λ _ _ _ _ _ _ _=>none) (λ _ ih=>Ez C ih)
section ext
variable {s':St}
def ba.put (s:St) (d:Option Tmp) (x:SV):ba s (s.put d x):=by
 cases d with
 |none=>exact ba.refl s
 |some d=>
  simp only [St.put];split
  .exact ⟨⟨[_],rfl⟩,⟨[],rfl⟩,rfl⟩
  .exact ba.refl s
def ba.cM (s:St) (G:List GO):ba s (s.cM G):=⟨⟨[],rfl⟩,⟨[],rfl⟩,rfl⟩
def ba.gj (s:St) (o:GO):ba s (s.gj o):=⟨⟨[],rfl⟩,⟨[],rfl⟩,rfl⟩
def ba.Bu (s:St) (d:Nat) (cs:List AV):ba s (s.Bu d cs):=⟨⟨[],rfl⟩,⟨[_],rfl⟩,rfl⟩
def ba.kill (s:St) (d:Nat):ba s (s.kill d):=⟨⟨[_],rfl⟩,⟨[],rfl⟩,rfl⟩
def NY {x:SV} {c:Bool} {s':St} (h:ic E s t p x=some (c,s')):ba s s':=by
 have store:∀ {t:TypeId} {p x:SV} {s':St},kl E s t p x=some s'->ba s s':=by
  intro t p x s' h;unfold kl at h
  repeat' (split at h)
  all_goals (first|(cases h; done) | skip)
  all_goals (injection h with h; subst h)
  .exact ba.Bu _ _ _
  .exact ba.cM _ _
 unfold ic at h
 repeat' (split at h)
 all_goals (first|(cases h; done) | skip)
 all_goals (injection h with h; injection h with _ h; subst h)
 all_goals (first|exact ba.cM _ _ | exact store (by assumption))
def NZ {x:SV} {c:Bool} {s':St} (h:nY E s t p x=some (c,s')):ba s s':=by
 unfold nY at h;split at h
 .rename_i hs;obtain ⟨_,rfl⟩:=cL h;exact (ba.cM s (xh s p x).2.2).trans (NY (s:=s.cM (xh s p x).2.2) hs)
 .cases h
def N0 {c:Bool} (h:aA E f s o=some (c,s')):ba s s':=by
 have alloc:∀ {el:TypeId} {cs:List AV} {c:Bool} {s':St},iP E f s o.dst el cs=some (c,s')->ba s s':=by
  intro el cs c s' h;unfold iP at h
  repeat' (split at h)
  all_goals (first|(cases h; done) | skip)
  .injection h with h; injection h with _ h; subst h; exact (ba.gj _ _).trans (ba.put _ _ _)
  .injection h with h; injection h with _ h; subst h; exact ((ba.kill _ _).trans (ba.Bu _ _ _)).trans (ba.put _ _ _)
 have store:∀ {t:TypeId} {p x:SV} {s':St},kl E s t p x=some s'->ba s s':=by
  intro t p x s' h;unfold kl at h
  repeat' (split at h)
  all_goals (first|(cases h; done) | skip)
  all_goals (injection h with h; subst h)
  .exact ba.Bu _ _ _
  .exact ba.cM _ _
 have aeq:∀ {t:TypeId} {p x:SV} {c:Bool} {s':St},ic E s t p x=some (c,s')->ba s s':=by
  intro t p x c s' h;unfold ic at h
  repeat' (split at h)
  all_goals (first|(cases h; done) | skip)
  all_goals (injection h with h; injection h with _ h; subst h)
  all_goals (first|exact ba.cM _ _ | exact store (by assumption))
 have blt:∀ {b:Builtin} {l:List AV} {tys:List TypeId} {c:Bool} {s':St},eX E s o.dst b l tys=some (c,s')->ba s s':=by
  intro b l tys c s' h;unfold eX at h
  repeat' (split at h)
  all_goals (first|(cases h; done) | skip)
  all_goals (injection h with h; injection h with _ h; subst h)
  all_goals (first|exact ba.put _ _ _ | exact (ba.cM _ _).trans (ba.put _ _ _) | exact ba.cM _ _)
 have update:∀ {t:TypeId} {m k x:SV} {s':St},gN E s t m k x=some s'->ba s s':=by
  intro t m k x s' h;unfold gN at h
  repeat' (split at h)
  all_goals (first|(cases h; done) | skip)
  all_goals (injection h with h; subst h; exact ba.cM _ _)
 have Ig:∀ {t:TypeId} {m k x:SV} {c:Bool} {s':St},jA E s t m k x=some (c,s')->ba s s':=by
  intro t m k x c s' h;unfold jA at h;split at h
  .rename_i s1 hs;obtain ⟨_,rfl⟩:=cL h;unfold gN at hs
   repeat' (split at hs)
   all_goals (first|(cases hs; done) | skip)
   all_goals (injection hs with hs; subst hs; exact (ba.cM _ _).trans (ba.cM _ _))
  .cases h
 have next:∀ {x:SV} {s':St},qA s o.dst x=some s'->ba s s':=by
  intro x s' h;unfold qA at h;split at h
  .split at h
   .rename_i l pos hg;cases hb:acV pos l.length <;> rw [hb] at h <;> simp only [cond_true,cond_false] at h <;> cases h
    .exact ba.put _ _ _
    .exact (ba.cM _ _).trans (ba.put _ _ _)
   .cases h
  .cases h
 have Ni:∀ {t:TypeId} {m k:SV} {c:Bool} {v:AV} {s':St},jW E s t m k=some (c,v,s')->ba s s':=by
  intro t m k c v s' h;unfold jW at h
  repeat' (split at h)
  all_goals (first|(cases h; done) | skip)
  all_goals (injection h with h; injection h with _ h; injection h with _ h; subst h; exact ba.cM _ _)
 have Nj:∀ {m st x:SV} {c:Bool} {s':St},gP s m st x=some (c,s')->ba s s':=by
  intro m st x c s' h;unfold gP at h
  repeat' (split at h)
  all_goals (first|(cases h; done) | skip)
  all_goals (injection h with h; injection h with _ h; subst h; exact ba.cM _ _)
 unfold aA sP at h
 repeat' (split at h)
 all_goals (first|(cases h; done) | exact alloc h | exact blt h | skip)
 all_goals (injection h with h; injection h with _ h; subst h)
 all_goals (first|exact ba.put _ _ _ | exact (ba.gj _ _).trans (ba.put _ _ _) | exact (ba.cM _ _).trans (ba.put _ _ _) | skip)
 all_goals (first|exact NZ (by assumption) | exact Ig (by assumption) | exact update (by assumption) | exact (Ni (by assumption)).trans (ba.put _ _ _) | exact Nj (by assumption) | exact next (by assumption))
def eI.kj {Q:AV->List GO->Prop} (hw:eD args acB) (h:eI E g acB G Q):eI E g args G Q:=
 ⟨h.1,λ R w cs hg hl=>h.2 R w cs hg (hw.rel hl)⟩
def KY (h:oD E f o K s):oD E f o (λ s'=>K s'/\ba s s') s:=by
 unfold oD at *;split
 .rename_i x args tys ho;rw [ho] at h;simp only at h;split at h
  .exact h.mono λ r G' hk=>⟨hk,(ba.cM _ _).trans (ba.put _ _ _)⟩
  .exact h.mono λ r G' hk=>⟨hk,(ba.cM _ _).trans (ba.put _ _ _)⟩
  .exact h
 .rename_i ho;rw [ho] at h;exact h
 .rename_i nc nd;split at h
  .rename_i ho;exact absurd ho (nc _ _ _)
  .exact h.elim
  .split at h
   .rename_i c s' hs;obtain ⟨hc,hk⟩:=h.out;exact gv.mk hc ⟨hk,N0 hs⟩
   .exact h.elim
def qI (h:dD E f ops o K s):dD E f ops o (λ s'=>K s'/\ba s s') s:=by
 unfold dD at *;split
 .rename_i hg;rw [hg] at h;exact KY h
 .rename_i j want hg;rw [hg] at h;simp only at h;split
  .rename_i hd;rw [hd] at h;exact h
  .rename_i d hd;rw [hd] at h;simp only at h;split
   .rename_i b hb;rw [hb] at h;simp only at h;refine ⟨λ e=>?_,λ e=>⟨h.2 e,(ba.put _ _ _).trans (ba.put _ _ _)⟩⟩;exact AU (KY (h.1 e)) λ s' hh=>⟨hh.1,(ba.put _ _ _).trans hh.2⟩
   .rename_i hb;rw [hb] at h;exact ⟨h,ba.put _ _ _⟩
   .rename_i hb nt;split at h
    .rename_i b Tg;exact absurd Tg (hb b)
    .rename_i Tg;exact absurd Tg nt
    .exact h
def Gc (h:jR E f ops o K s) (hK:∀ s,K s->K' s):jR E f ops o K' s:=by
 unfold jR at *;split
 .rename_i s' h1 h2;rw [h1,h2] at h;exact hK _ h
 .rename_i hn;split at h
  .rename_i s' h1 h2;exact absurd h2 (hn s' h1)
  .exact dE h hK
def Cm {s':St} (h:np E f s o=some s'):ba s s':=by
 unfold np at h
 repeat' (split at h)
 all_goals (first|(cases h; done) | skip)
 all_goals (injection h with h; subst h; exact (ba.gj _ _).trans (ba.put _ _ _))
def IL (h:jR E f ops o K s):jR E f ops o (λ s'=>K s'/\ba s s') s:=by
 unfold jR at *;split
 .rename_i s' h1 h2;rw [h1,h2] at h;exact ⟨h,Cm h2⟩
 .rename_i hn;split at h
  .rename_i s' h1 h2;exact absurd h2 (hn s' h1)
  .exact qI h
def qZ (h:jg E f ops o K s) (hK:∀ s,K s->K' s):jg E f ops o K' s:=by
 unfold jg at *;split at h
 .obtain ⟨h1,h2⟩:=h.out;exact gv.mk h1 (hK _ h2)
 .obtain ⟨h1,h2,h3⟩:=h.out;exact gv.mk h1 ⟨λ e=>hK _ (h2 e),λ i hi=>let ⟨k1,k2⟩:=(h3 i hi).out; gv.mk k1 (hK _ k2)⟩
 .exact Gc h hK
def U2 {c:Bool} {s':St} (h:JN E f s o=some (c,s')):ba s s':=by
 unfold JN at h
 repeat' (split at h)
 all_goals (first|(cases h; done) | skip)
 all_goals (injection h with h; injection h with _ h; subst h; exact (ba.cM _ _).trans (ba.put _ _ _))
def N1 {c:Bool} {s0:St} {g:Nat->Bool×St} (h:AB E s o=some (c,s0,left,g)):ba s s0/\∀ i,ba s (g i).2:=by
 unfold AB at h;split at h
 .unfold Gw at h;split at h
  .split at h
   .split at h
    .cases h;exact ⟨ba.put _ _ _,λ i=>(ba.cM _ _).trans (ba.put _ _ _)⟩
    .cases h
   .cases h
  .cases h
 .cases h
def zk (h:jg E f ops o K s):jg E f ops o (λ s'=>K s'/\ba s s') s:=by
 unfold jg at *;split at h
 .rename_i hb;obtain ⟨h1,h2⟩:=h.out;exact gv.mk h1 ⟨h2,U2 hb⟩
 .rename_i hb;obtain ⟨h1,h2,h3⟩:=h.out;obtain ⟨k1,k2⟩:=N1 hb;exact gv.mk h1 ⟨λ e=>⟨h2 e,k1⟩,λ i hi=>let ⟨q1,q2⟩:=(h3 i hi).out; gv.mk q1 ⟨q2,k2 i⟩⟩
 .exact IL h
def ra (h:jh E f ops o K s) (hK:∀ s,K s->K' s):jh E f ops o K' s:=by
 unfold jh at *;split at h
 .exact ⟨h.1,qZ h.2 hK⟩
 .exact qZ h hK
def lq {cut wk:Bool}:∀ {l:List Operand} {s s':St} {c:Bool},kH cut wk l s=(c,s')->ba s s'
 |[],s,s',c,h=>by
  simp only [kH] at h;cases h;exact ba.refl _
 |.tmp t::l,s,s',c,h=>by
  unfold kH at h;split at h
  .rename_i c1 s1 h1;cases h2:kH cut wk l s1 with
   |mk c2 s2=>
   rw [h2] at h;simp only [Prod.mk.injEq] at h;obtain ⟨_,rfl⟩:=h;exact (ny h1).trans (lq h2)
  .exact lq h
 |.const _::l,s,s',c,h=>lq (l:=l) h
 |.global _::l,s,s',c,h=>lq (l:=l) h
 |.func _::l,s,s',c,h=>lq (l:=l) h
def U3 {s s':St} {c:Bool} (h:QY E f s o=some (c,s')):ba s s':=by
 unfold QY at h;split at h
 .split at h
  .injection h with h;exact lq h
  .cases h
 .cases h
def IM (h:jh E f ops o K s):jh E f ops o (λ s'=>K s'/\ba s s') s:=by
 unfold jh at *;split at h
 .rename_i c s' hz;exact ⟨h.1,qZ (zk h.2) λ s2 h2=>⟨h2.1,(U3 hz).trans h2.2⟩⟩
 .exact zk h
def EA {s s':St} {l:Loc} {sz:Nat} (h:AQ s l sz e=some s'):ba s s':=by
 unfold AQ at h;split at h
 .cases h; exact ba.gj _ _
 unfold yT at h;cases Nc:Nat.ble 196608 sz with
 |true=>rw [Nc] at h; cases h; exact ba.gj _ _
 |false=>
 rw [Nc] at h;cases l with
 |slot t=>
  simp only at h;split at h
  .cases h; exact ⟨⟨[_],rfl⟩,⟨[],rfl⟩,rfl⟩
  .cases h
 |box k i=>
  simp only at h;split at h
  .split at h
   .cases h; exact ⟨⟨[],rfl⟩,⟨[_],rfl⟩,rfl⟩
   .cases h
  .cases h
 |row id i=>
  simp only at h;split at h
  .split at h
   .cases h; exact ⟨⟨[],rfl⟩,⟨[],rfl⟩,rfl⟩
   .cases h
  .cases h
def pE:∀ {l:List (Loc×Nat×TypeId)} {s s':St},jQ l s=some s'->ba s s'
 |[],s,s',h=>by
  simp only [jQ] at h;cases h;exact ba.refl _
 |(l,sz,e)::r,s,s',h=>by
  unfold jQ at h;split at h
  .rename_i s1 h1;exact (EA h1).trans (pE h)
  .cases h
def uZ:∀ {l:List (Loc×Nat×TypeId)} {s:St},ba s (nf l s)
 |[],s=>ba.refl _
 |(l,sz,e)::r,s=>by
  unfold nf;split
  .rename_i s1 h1;exact (EA h1).trans uZ
  .exact uZ
def RK {s s':St} {c:Bool} (h:GP E f o s=some (c,s')):ba s s':=by
 unfold GP at h;split at h
 .cases h; exact ba.refl _
 .split at h
  .exact ny h
  .split at h
   .cases h; exact ba.refl _
   .split at h
    .exact Kg h
    .split at h
     .cases h; exact uZ
     .cases h
def EB {K K':St->Prop} {ops:List Oper} (hK:∀ s,K s->K' s):∀ {l:List Oper} {s:St},uJ E f ops l K s->uJ E f ops l K' s
 |[],s,h=>hK s h
 |_::_,_,h=>ra h λ s' h'=>by
  unfold GQ at *;split at h'
  .exact ⟨h'.1,EB hK h'.2⟩
  .exact h'.elim
def EC (hK:∀ s,K s->K' s) {s:St} (h:Ao E f ops T K s):Ao E f ops T K' s:=
 jq (ops:=⟨ops⟩) hK T s h
def G9 {K:St->Prop} {ops:List Oper}:∀ {l:List Oper} {s:St},uJ E f ops l K s->uJ E f ops l (λ s'=>K s'/\ba s s') s
 |[],s,h=>⟨h,ba.refl s⟩
 |o::l,s,h=>by
  simp only [uJ] at *;refine ra (IM h) λ s' hh=>?_
  obtain ⟨h1,h2⟩:=hh;unfold GQ at *;split at h1
  .rename_i c s2 hp;exact ⟨h1.1,EB (λ s3 h3=>⟨h3.1,(h2.trans (RK hp)).trans h3.2⟩) (G9 h1.2)⟩
  .exact h1.elim
def zl {K:St->Prop} {ops:List Oper}:∀ {T:DT} {s:St},Ao E f ops T K s->Ao E f ops T (λ s'=>K s'/\ba s s') s
 |.done,s,h=>⟨h,ba.refl s⟩
 |.stop,_,_=>trivial
 |.take j C T,s,h=>by
  unfold Ao at h ⊢;split
  .rename_i oj hj;rw [hj] at h;exact dE (qI h) λ s' hh=>EC (λ s2 h2=>⟨h2.1,hh.2.trans h2.2⟩) (zl hh.1)
  .rename_i hj;rw [hj] at h;exact h
 |.al j W T,s,h=>by
  unfold Ao at h ⊢;split
  .rename_i oj hj;rw [hj] at h;exact ⟨h.1,dE (qI h.2) λ s' hh=>EC (λ s2 h2=>⟨h2.1,hh.2.trans h2.2⟩) (zl hh.1)⟩
  .rename_i hj;rw [hj] at h;exact h
 |.br i re C T more,s,h=>by
  unfold Ao at h ⊢;refine ⟨?_,zl h.2⟩;have h:=h.1;split
  .rename_i oj hj;rw [hj] at h;exact dE (qI h) λ s' hh=>⟨hh.1.1,EC (λ s2 h2=>⟨h2.1,hh.2.trans h2.2⟩) (zl hh.1.2)⟩
  .rename_i hj;rw [hj] at h;exact h
end ext
def pF (E:Env) (c:Code) (Q:Exit->St->Prop) (s:St):Prop:=iT E c (λ e s'=>Q e s'/\ba s s') s
section sound
variable {fz:Bool} {call:uV X} {qH:qY X} {iK:Option X->Option X->Option X} {x:X}
def tn (E:Env) (call:uV X):Prop:=∀ g args G K x,call g args G K=some x->eI E g args G (λ r G'=>K r G'=some x)
def BQ (E:Env) (qH:qY X):Prop:=∀ id args G K x,qH id args G K=some x->px E id args G (λ b G'=>K b G'=some x)
def bZ {c:Bool} {x:α} (h:(bif c then a else none)=some x):c=true/\a=some x:=by
 cases c
 .cases h
 .exact ⟨rfl,h⟩
def bind_some {β:Type} {k:α->Option β} {x:β} (h:a.bind k=some x):∃ y,a=some y/\k y=some x:=by
 cases a with
 |none=>cases h
 |some y=>exact ⟨y,rfl,h⟩
def RL {n:Int} {len:Nat} {g:Nat->Oper} (h:II E s o=some (n,len,g)) {j:Nat} (hj:n=(j:Int)):aA E f s (g j)=aA E f s o:=by
 subst hj;unfold II at h;have hcv:∀ k:IntKind,cK E s.ae (.const (.int k (j:Int)))=.v (.int k j):=λ k=>rfl
 split at h
 .rename_i t x y ho;split at h
  .rename_i k n i h1 h2;split at h
   .injection h with h; injection h with e1 h; injection h with e2 h;subst h; subst e1;simp only [aA,ho,hcv,h1]
   .cases h
  .cases h
 .rename_i t x y ho;split at h
  .rename_i k n i h1 h2;split at h
   .split at h
    .split at h
     .cases h
     .injection h with h; injection h with e1 h; injection h with e2 h;subst h; subst e1;simp only [aA,ho,hcv,h1]
    .injection h with h; injection h with e1 h; injection h with e2 h;subst h; subst e1;simp only [aA,ho,hcv,h1]
   .cases h
  .cases h
 .cases h
def wT {o:Oper} {n:Int} {len:Nat} {g:Nat->Oper} (hi:II E s o=some (n,len,g)) {K:St->Option X}:∀ (m j:Nat),CU E fz f g n K s m j=some x->∃ c s',aA E f s o=some (c,s')/\c=true/\K s'=some x
 |0,_,h=>by cases h
 |m+1,j,h=>by
  unfold CU at h;by_cases hn:n=(j:Int)
  .rw [decide_eq_true hn,cond_true,RL hi hn] at h;split at h
   .rename_i c s' hs;obtain ⟨h1,h2⟩:=bZ h;rw [fE] at h2;exact ⟨c,s',hs,h1,h2⟩
   .cases h
  .rw [decide_eq_false hn,cond_false] at h;exact wT hi m (j+1) h
def ED (h:aeR E f ops o s=true):Nu E f ops o s:=by
 unfold aeR at h;split at h
 .rename_i t m k ok d ho hd;split at h
  .rename_i c v b hg hs;rw [aad] at h;obtain ⟨rfl,h⟩:=h;have hn:=zi hs;unfold Nu;rw [hg];simp only;have e:aA E f s o=some (true,s.put o.dst (.v (if ok then .cD [v,.bool b] else v))):=by simp only [aA,ho,hn]
   rw [hd] at e;rw [hd,e];refine ⟨rfl,?_⟩;unfold St.put;simp only;split
   .rw [aS];exact GY h
   .rfl
  .exact GZ h
 .exact GZ h
def wU {ops:List Oper}:∀ {l:List Nat} {s:St},vQ E f ops l s=true->GV E f ops l s
 |[],_,_=>trivial
 |k::l,s,h=>by
  unfold vQ at h;unfold GV;rw [aad] at h;refine ⟨?_,wU h.2⟩;have h:=h.1;split at h
  .rename_i hk
   first
    |exact ED h
    |rw [hk]; exact ED h
  .rename_i hk
   first
    |trivial
    |rw [hk]; trivial
def A2 (hc:tn E call) (hr:BQ E qH) {K:St->Option X} (h:oOp E fz call qH f o K s=some x):oD E f o (λ s=>K s=some x) s:=by
 unfold oD;split
 .rename_i y args tys ho;unfold oOp at h;rw [ho] at h;simp only at h;split at h
  .rename_i h1 h2;rw [h1,h2];refine (hc _ _ _ _ _ h).mono λ r G' hk=>?_
   rw [fE] at hk;exact hk
  .rename_i h1 h2;rw [h1,h2];refine (hr _ _ _ _ _ h).mono λ r G' hk=>?_
   rw [fE] at hk;exact hk
  .cases h
 .rename_i ho;unfold oOp at h;rw [ho] at h;cases h
 .rename_i nc nd;unfold oOp at h;split at h
  .rename_i ho;exact absurd ho (nc _ _ _)
  .cases h
  .rename_i y ho;split at h
   .rename_i b s1 s2 hs;have hn:=NQ hs;have e:aA E f s o=some (true,bif b then s1 else s2):=by simp only [aA,ho,hn]
    rw [e];refine gv.mk rfl ?_;rw [fE,fE] at h;cases b <;> exact h
   .cases h
  .rename_i t m k ok ho;split at h
   .rename_i c v b hs;obtain ⟨h1,h2⟩:=bZ h;subst h1;rw [fE] at h2;have hn:=zi hs;have e:aA E f s o=some (true,s.put o.dst (.v (if ok then .cD [v,.bool b] else v))):=by simp only [aA,ho,hn]
    rw [e];exact gv.mk rfl h2
   .split at h
    .rename_i c s' hs;obtain ⟨h1,h2⟩:=bZ h;rw [fE] at h2;rw [hs];exact gv.mk h1 h2
    .cases h
  .rename_i t m k z ho;split at h
   .rename_i c s' hd hs;obtain ⟨h1,h2⟩:=bZ h;subst h1;rw [fE] at h2;have hn:=Gb hs;have e:aA E f s o=some (true,s'):=by simp only [aA,ho,hd,hn]
    rw [e];exact gv.mk rfl h2
   .cases h
  .rename_i args tys ho;split at h
   .rename_i l hl;split at h
    .rename_i b s1 c s2 hs;have hcc:b=false->c=true:=λ e=>by subst e; exact (bZ (show (bif c then yi fz s2 K else none)=some x from h)).1
     have hn:=IF hs hcc;have e:aA E f s o=some (true,bif b then s1 else s2):=by simp only [aA,ho,hl,hn]
     rw [e];refine gv.mk rfl ?_;cases b with
     |true=>
      show K s1=some x;rw [<- fE fz s1 K];exact h
     |false=>
      obtain ⟨h1,h2⟩:=bZ (show (bif c then yi fz s2 K else none)=some x from h);rw [fE] at h2;exact h2
    .split at h
     .rename_i c s' hs;obtain ⟨h1,h2⟩:=bZ h;rw [fE] at h2;rw [hs];exact gv.mk h1 h2
     .cases h
   .cases h
  .split at h
   .rename_i n len g hi;obtain ⟨c,s',hs,h1,h2⟩:=wT hi _ _ h;rw [hs];exact gv.mk h1 h2
   .split at h
    .rename_i c s' hs;obtain ⟨h1,h2⟩:=bZ h;rw [fE] at h2;rw [hs];exact gv.mk h1 h2
    .cases h
def oG (hc:tn E call) (hr:BQ E qH) {K:St->Option X} (h:uW E fz call qH f ops o K s=some x):dD E f ops o (λ s=>K s=some x) s:=by
 unfold uW at h;unfold dD;split at h
 .rename_i hg;rw [hg];exact A2 hc hr h
 .rename_i j want hg;rw [hg];simp only;split at h
  .cases h
  .rename_i d hd;rw [hd];simp only;split at h
   .rename_i b hb;rw [hb];simp only;cases want with
    |true=>
     simp only at h;rw [fE,fE] at h;refine ⟨λ e=>?_,λ e=>?_⟩
     .subst e;exact A2 hc hr h
     .have e:b=false:=by simpa using e
      subst e;exact h
    |false=>
     simp only at h;rw [fE,fE] at h;refine ⟨λ e=>?_,λ e=>?_⟩
     .subst e;exact A2 hc hr h
     .have e:b=true:=by simpa using e
      subst e;exact h
   .rename_i hb;rw [hb];rw [fE] at h;exact h
   .cases h
def Ge (hc:tn E call) (hr:BQ E qH) {K:St->Option X} (h:IJ E fz call qH f ops o K s=some x):jR E f ops o (λ s=>K s=some x) s:=by
 unfold IJ at h;unfold jR;split at h
 .rename_i s' h1 h2;rw [h1,h2];rw [fE] at h;exact h
 .rename_i hn;split
  .rename_i s' h1 h2;exact absurd h2 (hn s' h1)
  .exact oG hc hr h
def wV (hc:tn E call) (hr:BQ E qH) {K:St->Option X} (h:CV E fz call qH f ops o K s=some x):jg E f ops o (λ s=>K s=some x) s:=by
 unfold CV at h;unfold jg;split at h
 .rename_i c s' h1 h2;rw [h1,h2];obtain ⟨q1,q2⟩:=bZ h;rw [fE] at q2;exact gv.mk q1 q2
 .rename_i c s0 left g h1 h2 h3;rw [h1,h2,h3];obtain ⟨q1,q2⟩:=bZ h;refine gv.mk q1 ?_;cases left with
  |nil=>
   simp only [List.isEmpty_nil,cond_true,fE] at q2;exact ⟨λ _=>q2,λ i hi=>by simp at hi⟩
  |cons i0 l=>
   simp only [List.isEmpty_cons,cond_false] at q2;refine ⟨λ e=>(by cases e),λ i hi=>?_⟩;obtain ⟨r1,r2⟩:=bZ (RJ q2 i hi);rw [fE] at r2;exact gv.mk r1 r2
 .rename_i Q7 hn2;split
  .rename_i c s' h1 h2
   first
    |exact absurd h2 (Q7 c s' h1)
    |exact absurd h2 (hn2 c s' h1)
  .rename_i c s0 left g h1 h2 h3
   first
    |exact absurd h3 (hn2 c s0 left g h1 h2)
    |exact absurd h3 (Q7 c s0 left g h1 h2)
  .exact Ge hc hr h
def Gf (hc:tn E call) (hr:BQ E qH) {K:St->Option X} (h:IK E fz call qH f ops o K s=some x):jh E f ops o (λ s=>K s=some x) s:=by
 unfold IK at h;unfold jh;split at h
 .rename_i c s' hz;rw [hz];obtain ⟨h1,h2⟩:=bZ h;exact ⟨h1,wV hc hr h2⟩
 .rename_i hz;rw [hz];exact wV hc hr h
def EE (hc:tn E call) (hr:BQ E qH) {ops:List Oper}:∀ {l:List Oper} {K:St->Option X} {s:St},YG E fz call qH f ops l K s=some x->uJ E f ops l (λ s=>K s=some x) s
 |[],_,_,h=>h
 |o::l,K,s,h=>by
  unfold YG at h;unfold uJ;refine ra (Gf hc hr h) λ s' h'=>?_
  unfold GQ;split at h'
  .rename_i c s2 hp;rw [hp];cases c with
   |true=>exact ⟨rfl,EE hc hr h'⟩
   |false=>cases h'
  .cases h'
def nF (hc:tn E call) (hr:BQ E qH) (hm:BP iK) {ops:List Oper}:∀ {T:DT} {K:St->Option X} {s:St} {x:X},oT E fz call qH iK f ops T K s=some x->Ao E f ops T (λ s=>K s=some x) s
 |.done,_,_,_,h=>h
 |.stop,_,_,_,_=>trivial
 |.take j C T,K,s,x,h=>by
  unfold oT at h;unfold Ao;split at h
  .rename_i hk;rw [hk];exact dE (oG hc hr h) λ s' h'=>nF hc hr hm h'
  .cases h
 |.al j W T,K,s,x,h=>by
  unfold oT at h;unfold Ao;split at h
  .rename_i hk;obtain ⟨h1,h2⟩:=bZ h;rw [hk];exact ⟨h1,dE (oG hc hr h2) λ s' h'=>nF hc hr hm h'⟩
  .cases h
 |.br i re C T more,K,s,x,h=>by
  have first:∀ {x:X},(match nth ops i with
   |some oi=>uW E fz call qH f ops oi (λ s'=>bif vQ E f ops re s' then oT E fz call qH iK f ops T K s' else none) s
   |none=>none)=some x->(match nth ops i with
   |some oi=>dD E f ops oi (λ s'=>GV E f ops re s'/\Ao E f ops T (λ s=>K s=some x) s') s
   |none=>False):=by
   intro x h;split at h
   .rename_i hk;refine dE (oG hc hr h) λ s' h'=>?_
    obtain ⟨h1,h2⟩:=bZ h';exact ⟨wU h1,nF hc hr hm h2⟩
   .cases h
  unfold Ao;cases more with
  |stop=>exact ⟨first h,trivial⟩
  |done=>obtain ⟨h1,h2⟩:=hm _ _ _ h; exact ⟨first h1,nF (T:=.done) hc hr hm h2⟩
  |take a b c=>obtain ⟨h1,h2⟩:=hm _ _ _ h; exact ⟨first h1,nF hc hr hm h2⟩
  |br a b c d e=>obtain ⟨h1,h2⟩:=hm _ _ _ h; exact ⟨first h1,nF hc hr hm h2⟩
  |al a b c=>obtain ⟨h1,h2⟩:=hm _ _ _ h; exact ⟨first h1,nF hc hr hm h2⟩
end sound
section
variable {C:jj} {ih:EvT}
def A3 (C:jj) (ih:EvT):Prop:=∀ (f:FuncId) (p:Nat) (c:Code) (X:Type) (iK:Option X->Option X->Option X),BP iK->∀ (K:Exit->St->Option X) (s:St) (x:X),
 cI (C.D.dt f) c=true->ih f p c X iK K s=some x->pF C.D.toEnv c (λ e s'=>K e s'=some x) s
def to {X:Type}:BP (CW (X:=X)):=λ a b x h=>by
 unfold CW at h;by_cases e:a=b
 .rw [if_pos e] at h;exact ⟨h,e ▸ h⟩
 .rw [if_neg e] at h;cases h
def qJ (hs:A3 C ih) {X:Type} {iK:Option X->Option X->Option X} (hm:BP iK):tn C.D.toEnv (G7 C ih iK):=λ g args G K x h=>by
 unfold G7 at h;obtain ⟨gl,h⟩:=bZ h;split at h
 .rename_i fn hfn;split at h
  .rename_i b hb;obtain ⟨hn,h⟩:=bZ h;have fin:∀ {K':AV->List GO->Option X},ih g 1 b X iK (UU C.D.toEnv fn K') (St.init fn.ntmps args G)=some x->eI C.D.toEnv g args G (λ r G'=>K' r G'=some x):=by
    intro K' h;refine eI.intro hfn hb (by simpa using hn) ((hs g 1 b X iK hm _ _ x (C.D.ack g fn b gl hfn hb) h).mono λ e s' hq=>?_);have hq:=hq.1;unfold UU at hq;unfold ach;cases e <;> first | (cases hq; done) | skip
    all_goals (simp only at hq ⊢)
    all_goals (split at hq <;> first | (cases hq; done) | skip)
    all_goals (rename_i hl; rw [hl]; simp only)
    all_goals (split at hq <;> first | (cases hq; done) | skip)
    all_goals (rename_i Yw; rw [Yw]; exact hq)
   cases hfz:C.D.FP g 131072 with
   |true=>rw [hfz] at h; exact eI.frz (fin h)
   |false=>rw [hfz] at h; exact fin h
  .cases h
 .cases h
def KZ (IN:∀ g e,C.NU g=some e->aK C.D.toEnv g e) (hs:A3 C ih) {X:Type} {iK:Option X->Option X->Option X} (hm:BP iK):tn C.D.toEnv (G8 C ih iK):=λ g args G K x h=>by
 unfold G8 at h;split at h
 .rename_i e he;obtain ⟨a,ha,h⟩:=bind_some h;obtain ⟨y,hy,h⟩:=bind_some h;refine eI.kj (e.ps.xj ha).1 (((IN g e he a y hy) G).mono λ r G' hr=>?_);obtain ⟨rfl,rfl⟩:=hr;exact h
 .split at h
  .rename_i e he;split at h
   .rename_i c r G' hf;obtain ⟨hc,h⟩:=bZ h;subst hc;refine (e.ok args G r G' hf).mono λ r' FM hh=>?_
    obtain ⟨rfl,rfl⟩:=hh;exact h
   .cases h
  .split at h
   .rename_i e he;obtain ⟨a,ha,h⟩:=bind_some h;obtain ⟨y,hy,h⟩:=bind_some h;refine eI.kj (e.ps.xj ha).1 ((e.ok a y hy G).mono λ r G' hr=>?_);obtain ⟨z,rfl,hr⟩:=hr;exact (KV e.outs z hr).trans h
   .exact qJ hs hm g args G K x h
def K1 {n:Nat}:∀ {l:List Tmp},YH n l=true->∀ t∈l,t < n
 |[],_,t,ht=>by simp at ht
 |a::l,h,t,ht=>by
  simp only [YH,aad] at h;rcases aa5.1 ht with rfl|ht
  .exact kS h.1
  .exact K1 h.2 t ht
def N2 (hs:A3 C ih) {X:Type} {iK:Option X->Option X->Option X} (hm:BP iK):BQ C.D.toEnv (YI C ih iK):=λ id args G K x h=>by
 unfold YI at h;split at h
 .rename_i p fp sl n ps xz bd d hG;obtain ⟨hc,h⟩:=bZ h;simp only [aad] at hc;obtain ⟨⟨⟨h1,h2⟩,h3⟩,h4⟩:=hc;refine px.intro hG (aaK h1) (K1 h2) ((hs _ _ xz X iK hm _ _ x h3 h).mono λ e s1 hq=>?_);have hq:=hq.1;unfold Iw;cases e with
  |normal=>
   simp only at hq ⊢;split at hq
   .rename_i p' fn sl' n' ps' YE bd' d' hG1;rw [hG1];simp only;refine (hs _ _ bd X iK hm _ _ x h4 hq).mono λ e2 s2 Ix=>?_
    have Ix:NV id K e2 s2=some x:=Ix.1;unfold NV at Ix;unfold NO;split at Ix
    .rename_i hG2;rw [hG2];cases e2 <;> first | (cases Ix; done) | exact Ix
    .cases Ix
   .cases hq
  |_=>cases hq
 .cases h
def pF.of {c:Code} {s:St} (h:pF E c Q s) (hq:∀ e s',Q e s'->ba s s'->Q' e s'):iT E c Q' s:=
 iT.mono h λ e s' hh=>hq e s' hh.1 hh.2
def zn {s s':St} {e:Exit}:∀ {outs:List (XK×dh)} {o:JT outs},qu s outs e s'=some o->∃ (t:dh) (v:t.ps.T),t.dec s s'=some v/\∀ (α:Type) (K:Exit->St->α),XH s outs o K=K e (t.st s v)
 |[],o,h=>by cases h
 |[x],o,h=>by
  obtain ⟨h1,h2⟩:=bZ (show (bif x.1.is e then x.2.dec s s' else none)=some o from h);exact ⟨x.2,o,h2,λ _ K=>by rw [XK.Py h1]; rfl⟩
 |x::y::l,o,h=>by
  have h:(bif x.1.is e then (x.2.dec s s').bind λ v=>some (.inl v) else (qu s (y::l) e s').bind λ o=>some (.inr o))=some o:=h;cases hx:x.1.is e with
  |true=>
   rw [hx] at h;obtain ⟨v,h1,h2⟩:=bind_some h;cases h2;exact ⟨x.2,v,h1,λ _ K=>by rw [XK.Py hx]; rfl⟩
  |false=>
   rw [hx] at h;obtain ⟨v,h1,h2⟩:=bind_some h;cases h2;obtain ⟨t,u,k1,k2⟩:=zn h1;exact ⟨t,u,k1,λ α K=>k2 α K⟩
def dh.va (t:dh) (s:St) (v:t.ps.T):ba s (t.st s v):=by
 have h1:∀ (W:List Tmp) (b:bT),∃ pre,Ef W b=pre++b:=λ W b=>by
  induction W with
  |nil=>exact ⟨[],rfl⟩
  |cons t W ih=>obtain ⟨p,hp⟩:=ih; exact ⟨.put t .none::p,by simp [Ef,hp]⟩
 have h2:∀ (ts:List Tmp) (l:List AV) (b:bT),∃ pre,uR ts l b=pre++b:=λ ts=>by
  induction ts with
  |nil=>intro l b; exact ⟨[],by cases l <;> rfl⟩
  |cons t ts ih=>
   intro l b;cases l with
   |nil=>exact ⟨[],rfl⟩
   |cons a l=>obtain ⟨p,hp⟩:=ih l b; exact ⟨.put t (.v a)::p,by simp [uR,hp]⟩
 have h3:∀ (bx:List (Nat×Nat)) (l:List AV) (b:ew),∃ pre,BL bx l b=pre++b:=λ bx=>by
  induction bx with
  |nil=>intro l b; exact ⟨[],rfl⟩
  |cons x bx ih=>
   obtain ⟨k,n⟩:=x;intro l b;obtain ⟨p,hp⟩:=ih (l.drop n) b;exact ⟨(k,l.take n)::p,by simp [BL,hp]⟩
 have h4:∀ (l:List (Tmp×Nat×Nat)) (b:bT),∃ pre,uS l b=pre++b:=λ l b=>by
  induction l with
  |nil=>exact ⟨[],rfl⟩
  |cons x l ih=>obtain ⟨t,k,o⟩:=x; obtain ⟨p,hp⟩:=ih; exact ⟨.put t (.lp k o)::p,by simp [uS,hp]⟩
 obtain ⟨p1,e1⟩:=h1 t.W s.ae;obtain ⟨p2,e2⟩:=h2 t.sl (t.wD v) (Ef t.W s.ae);obtain ⟨p3,e3⟩:=h3 t.bx ((t.wD v).drop t.sl.length) s.boxes;obtain ⟨p4,e4⟩:=h4 t.lps (p2++(p1++s.ae));exact ⟨⟨p4++(p2++p1),by rw [show (t.st s v).ae=uS t.lps (uR t.sl (t.wD v) (Ef t.W s.ae)) from rfl,e2,e1,e4,List.append_assoc,List.append_assoc]⟩,⟨p3,e3⟩,rfl⟩
def iT.akf {c:Code} {s s1:St} {N:Nat} {o:JT outs} 
  (hg:Am.jQ gh s=some s1) (h0:head.dec s1 s1=some v0) (hr:∀ v r,rd v=some r->pF E c (λ e s'=>BO s1 head outs e s'=some r) (head.st s1 v))
  (hl:ao rd N v0=some o) (hQ:∀ (t:dh) (v:t.ps.T) (e:Exit),(∀ (α:Type) (K:Exit->St->α),XH s1 outs o K=K e (t.st s1 v))->Q e (t.st s1 v)/\ba s (t.st s1 v)) :
  pF E (.loop c) Q s:=λ R0 w β a F hr0 GI=>by
 obtain ⟨R,k1,k2,k3,_⟩:=mD hr0 hg;have hf:cQ R s1.ro F:=by rw [k3]; exact GI.mono k2.ext
 obtain ⟨i1,i2⟩:=dh.JD (ba.refl s1) k1 k1 (Step.refl R w β s1.boxes) h0;refine pw (λ m a' w'=>∃ v R' β',ao rd m v=some o/\bG E R' w' β' (head.st s1 v) a'/\Step R w β s1.boxes R' w' β' (head.st s1 v).boxes) ?_ ⟨v0,_,β,hl,i1,i2⟩;rintro m a' w' ⟨v,R',β',hm,nu,mh⟩;cases m with
 |zero=>cases hm
 |succ m=>
  obtain ⟨r,h1,h2⟩:=bind_some (show ((rd v).bind λ o=>abC (λ v'=>ao rd m v') (λ x=>some x) o)=some o from hm);refine wpIn_mono (hr v r h1 R' w' β' a' F nu (hf.mono mh.ext)) ?_;rintro e a2 w2 ⟨s2,R2,β2,⟨hK,hx⟩,Kk,N3,KU⟩;have N4:ba s1 s2:=(head.va s1 v).trans hx;have Ti:=mh.trans N3;have out:∀ {u:JT outs},qu s1 outs e s2=some u->r=.inr u->Res E R0 w β s (λ e s'=>Q e s'/\ba s s') e a2 w2:=λ {u} hu hru=>by
   subst hru;cases h2;obtain ⟨t,v',q1,q2⟩:=zn hu;obtain ⟨j1,j2⟩:=dh.JD N4 k1 Kk Ti q1;exact ⟨t.st s1 v',_,β2,hQ t v' e q2,j1,k2.trans j2,k3⟩
  cases e with
  |normal=>
   obtain ⟨v',q1,q2⟩:=bind_some (show ((head.dec s1 s2).bind λ v=>some (.inl v))=some r from hK);cases q2;obtain ⟨j1,j2⟩:=dh.JD N4 k1 Kk Ti q1;exact ⟨m,ab1 m,v',_,β2,h2,j1,j2⟩
  |exit i=>obtain ⟨u,q1,q2⟩:=bind_some (show ((qu s1 outs (.exit i) s2).bind λ o=>some (.inr o))=some r from hK); exact out q1 (aaJ q2).symm
  |ret=>obtain ⟨u,q1,q2⟩:=bind_some (show ((qu s1 outs .ret s2).bind λ o=>some (.inr o))=some r from hK); exact out q1 (aaJ q2).symm
  |goto i=>obtain ⟨u,q1,q2⟩:=bind_some (show ((qu s1 outs (.goto i) s2).bind λ o=>some (.inr o))=some r from hK); exact out q1 (aaJ q2).symm
  |panic i=>obtain ⟨u,q1,q2⟩:=bind_some (show ((qu s1 outs (.panic i) s2).bind λ o=>some (.inr o))=some r from hK); exact out q1 (aaJ q2).symm
  |outgrown=>obtain ⟨u,q1,q2⟩:=bind_some (show ((qu s1 outs .outgrown s2).bind λ o=>some (.inr o))=some r from hK); exact out q1 (aaJ q2).symm
def iT.aeU {c:Code} {s s1:St} {rd:(head.ps.T->Option (JT outs))->head.ps.T->Option (JT outs)} {N:Nat} {o:JT outs} 
  (hg:Am.jQ gh s=some s1) (h0:head.dec s1 s1=some v0) (hr:∀ k v u,rd k v=some u->pF E c (λ e s'=>UX s1 head outs k e s'=some u) (head.st s1 v))
  (hl:gw rd N v0=some o) (hQ:∀ (t:dh) (v:t.ps.T) (e:Exit),(∀ (α:Type) (K:Exit->St->α),XH s1 outs o K=K e (t.st s1 v))->Q e (t.st s1 v)/\ba s (t.st s1 v)) :
  pF E (.loop c) Q s:=λ R0 w β a F hr0 GI=>by
 obtain ⟨R,k1,k2,k3,_⟩:=mD hr0 hg;have hf:cQ R s1.ro F:=by rw [k3]; exact GI.mono k2.ext
 obtain ⟨i1,i2⟩:=dh.JD (ba.refl s1) k1 k1 (Step.refl R w β s1.boxes) h0;refine pw (λ m a' w'=>∃ v R' β',gw rd m v=some o/\bG E R' w' β' (head.st s1 v) a'/\Step R w β s1.boxes R' w' β' (head.st s1 v).boxes) ?_ ⟨v0,_,β,hl,i1,i2⟩;rintro m a' w' ⟨v,R',β',hm,nu,mh⟩;cases m with
 |zero=>cases hm
 |succ m=>
  refine wpIn_mono (hr (gw rd m) v o hm R' w' β' a' F nu (hf.mono mh.ext)) ?_;rintro e a2 w2 ⟨s2,R2,β2,⟨hK,hx⟩,Kk,N3,KU⟩;have N4:ba s1 s2:=(head.va s1 v).trans hx;have Ti:=mh.trans N3;have out:qu s1 outs e s2=some o->Res E R0 w β s (λ e s'=>Q e s'/\ba s s') e a2 w2:=λ hu=>by
   obtain ⟨t,v',q1,q2⟩:=zn hu;obtain ⟨j1,j2⟩:=dh.JD N4 k1 Kk Ti q1;exact ⟨t.st s1 v',_,β2,hQ t v' e q2,j1,k2.trans j2,k3⟩
  cases e with
  |normal=>
   obtain ⟨v',q1,q2⟩:=bind_some (show (head.dec s1 s2).bind (gw rd m)=some o from hK);obtain ⟨j1,j2⟩:=dh.JD N4 k1 Kk Ti q1;exact ⟨m,ab1 m,v',_,β2,q2,j1,j2⟩
  |exit i=>exact out hK
  |ret=>exact out hK
  |goto i=>exact out hK
  |panic i=>exact out hK
  |outgrown=>exact out hK
def iT.aeV {X:Type} {c:Code} {s s1:St} {K:Exit->St->Option X} {rd:(head.ps.T->Option X)->head.ps.T->Option X} {N:Nat} {o:X}
  (hg:Am.jQ gh s=some s1) (h0:head.dec s1 s1=some v0) (hr:∀ k v u,rd k v=some u->pF E c (λ e s'=>UZ s1 head K k e s'=some u) (head.st s1 v))
  (hl:gw rd N v0=some o) :
  pF E (.loop c) (λ e s'=>K e s'=some o) s:=λ R0 w β a F hr0 GI=>by
 obtain ⟨R,k1,k2,k3,_⟩:=mD hr0 hg;have hf:cQ R s1.ro F:=by rw [k3]; exact GI.mono k2.ext
 obtain ⟨i1,i2⟩:=dh.JD (ba.refl s1) k1 k1 (Step.refl R w β s1.boxes) h0;refine pw (λ m a' w'=>∃ v R' β',gw rd m v=some o/\bG E R' w' β' (head.st s1 v) a'/\Step R w β s1.boxes R' w' β' (head.st s1 v).boxes) ?_ ⟨v0,_,β,hl,i1,i2⟩;rintro m a' w' ⟨v,R',β',hm,nu,mh⟩;cases m with
 |zero=>cases hm
 |succ m=>
  refine wpIn_mono (hr (gw rd m) v o hm R' w' β' a' F nu (hf.mono mh.ext)) ?_;rintro e a2 w2 ⟨s2,R2,β2,⟨hK,hx⟩,Kk,N3,KU⟩;have N4:ba s1 s2:=(head.va s1 v).trans hx;have Ti:=mh.trans N3;have out:K e s2=some o->Res E R0 w β s (λ e s'=>K e s'=some o/\ba s s') e a2 w2:=λ hu=>
   ⟨s2,R2,β2,⟨hu,(pE hg).trans N4⟩,Kk,k2.trans Ti,KU.trans k3⟩
  cases e with
  |normal=>
   obtain ⟨v',q1,q2⟩:=bind_some (show (head.dec s1 s2).bind (gw rd m)=some o from hK);obtain ⟨j1,j2⟩:=dh.JD N4 k1 Kk Ti q1;exact ⟨m,ab1 m,v',_,β2,q2,j1,j2⟩
  |exit i=>exact out hK
  |ret=>exact out hK
  |goto i=>exact out hK
  |panic i=>exact out hK
  |outgrown=>exact out hK
end
def wW (E:Env):List Bool->Code->(Exit->St->Prop)->St->Prop
 |[],_,Q,s=>Q .normal s
 |true::k,.seq x y,Q,s=>pF E x (BF (wW E k y Q) Q) s
 |false::k,.seq x _,Q,s=>wW E k x Q s
 |_::_,_,_,_=>False
def pG (E:Env):List Bool->Code->(Exit->St->Prop)->St->Prop
 |[],c,Q,s=>pF E c Q s
 |true::k,.seq _ y,Q,s=>pG E k y Q s
 |false::k,.seq x y,Q,s=>pG E k x (BF (pF E y Q) Q) s
 |_::_,_,_,_=>False
def PG (F:Fence) (P:Program):List Bool->Code->(Exit->Act->World->Prop)->Act->World->Prop
 |[],c,Q,a,w=>c.wpIn F 0 P Q a w
 |true::k,.seq _ y,Q,a,w=>PG F P k y Q a w
 |false::k,.seq x y,Q,a,w=>PG F P k x (Exit.then (λ a' w'=>y.wpIn F 0 P Q a' w') Q) a w
 |_::_,_,_,_,_=>False
section rot
variable {s1:St} {β:Nat->Nat} {F:Fence}
def At (E:Env) (s1:St) (R:ak) (w:World) (β:Nat->Nat) (s:St) (a:Act) (w':World):Prop:=
 ∃ R' β',ba s1 s/\bG E R' w' β' s a/\Step R w β s1.boxes R' w' β' s.boxes/\s.ro=s1.ro
def pF.at {c:Code} {s:St} {a:Act} (hf:cQ R s1.ro F) (h:pF E c Q s) (uo:At E s1 R w β s a w') (hQ:∀ e s' a' w',Q e s'->At E s1 R w β s' a' w'->Φ e a' w'):c.wpIn F 0 E.P Φ a w':=by
 obtain ⟨R',β',hx,hr,mh,ck⟩:=uo;refine wpIn_mono (h R' w' β' a F hr (by rw [ck]; exact hf.mono mh.ext)) ?_;rintro e a2 w2 ⟨s2,R2,β2,⟨hq,N4⟩,Kk,N3,KU⟩;exact hQ e s2 a2 w2 hq ⟨R2,β2,hx.trans N4,Kk,mh.trans N3,KU.trans ck⟩
def pG.at (hf:cQ R s1.ro F):∀ (k:List Bool) (c:Code) {Q:Exit->St->Prop} {s:St} {a:Act} {w':World} {Φ:Exit->Act->World->Prop},pG E k c Q s->At E s1 R w β s a w'->(∀ e s' a' w',Q e s'->At E s1 R w β s' a' w'->Φ e a' w')->PG F E.P k c Φ a w'
 |[],c,Q,s,a,w',Φ,h,uo,hQ=>pF.at hf h uo hQ
 |true::k,c,Q,s,a,w',Φ,h,uo,hQ=>by
  cases c with
  |seq x y=>exact pG.at hf k y h uo hQ
  |_=>exact h.elim
 |false::k,c,Q,s,a,w',Φ,h,uo,hQ=>by
  cases c with
  |seq x y=>
   refine pG.at hf k x (Q:=BF (pF E y Q) Q) h uo λ e s' a' w' hq xG=>?_
   cases e with
   |normal=>exact pF.at hf hq xG hQ
   |_=>exact hQ _ s' a' w' hq xG
  |_=>exact h.elim
def wW.at (hf:cQ R s1.ro F):∀ (k:List Bool) (c:Code) {Q:Exit->St->Prop} {s:St} {a:Act} {w':World} {Φ:Exit->Act->World->Prop},wW E k c Q s->At E s1 R w β s a w' ->
  (∀ s' a' w',Q .normal s'->At E s1 R w β s' a' w'->PG F E.P k c Φ a' w')->(∀ e s' a' w',e≠.normal->Q e s'->At E s1 R w β s' a' w'->Φ e a' w')->c.wpIn F 0 E.P Φ a w'
 |[],c,Q,s,a,w',Φ,h,uo,hS,hQ=>hS s a w' h uo
 |true::k,c,Q,s,a,w',Φ,h,uo,hS,hQ=>by
  cases c with
  |seq x y=>
   refine wpIn_seq (pF.at hf (show pF E x (BF (wW E k y Q) Q) s from h) uo λ e s' a' w' hq xG=>?_);cases e with
   |normal=>exact wW.at hf k y hq xG hS hQ
   |exit i=>exact hQ _ s' a' w' (by simp) hq xG
   |ret=>exact hQ _ s' a' w' (by simp) hq xG
   |goto i=>exact hQ _ s' a' w' (by simp) hq xG
   |panic i=>exact hQ _ s' a' w' (by simp) hq xG
   |outgrown=>exact hQ _ s' a' w' (by simp) hq xG
  |_=>exact h.elim
 |false::k,c,Q,s,a,w',Φ,h,uo,hS,hQ=>by
  cases c with
  |seq x y=>
   refine wpIn_seq (wW.at hf k x (Q:=Q) h uo hS λ e s' a' w' de hq xG=>?_);cases e with
   |normal=>exact absurd rfl de
   |exit i=>exact hQ _ s' a' w' de hq xG
   |ret=>exact hQ _ s' a' w' de hq xG
   |goto i=>exact hQ _ s' a' w' de hq xG
   |panic i=>exact hQ _ s' a' w' de hq xG
   |outgrown=>exact hQ _ s' a' w' de hq xG
  |_=>exact h.elim
end rot
def iT.YK {s s1:St} {N:Nat} {k:List Bool} {o:JT outs} 
  (hg:Am.jQ gh s=some s1) (h0:pre s1=some r0)
  (hp:∀ s2 r,pre s2=some r->wW E k b (λ e s'=>BO s1 head outs e s'=some r) s2)
  (hr:∀ v r,rd v=some r->pG E k b (λ e s'=>G6 pre (BO s1 head outs) e s'=some r) (head.st s1 v))
  (hl:abC (λ v=>ao rd N v) (λ x=>some x) r0=some o) (hQ:∀ (t:dh) (v:t.ps.T) (e:Exit),(∀ (α:Type) (K:Exit->St->α),XH s1 outs o K=K e (t.st s1 v))->Q e (t.st s1 v)/\ba s (t.st s1 v)) :
  pF E (.loop b) Q s:=λ R0 w β a F hr0 GI=>by
 obtain ⟨R,k1,k2,k3,_⟩:=mD hr0 hg;have hf:cQ R s1.ro F:=by rw [k3]; exact GI.mono k2.ext
 refine pw (λ n a' w'=>∃ s2 r,pre s2=some r/\abC (λ v=>ao rd n v) (λ x=>some x) r=some o/\At E s1 R w β s2 a' w') ?_ ⟨s1,r0,h0,hl,R,β,ba.refl s1,k1,Step.refl _ _ _ _,rfl⟩;rintro n a' w' ⟨s2,r,hpr,hlr,uo⟩
 have out:∀ {e:Exit} {s3:St} {a3:Act} {w3:World} {r:head.ps.T⊕JT outs} {n:Nat},e≠.normal->BO s1 head outs e s3=some r->abC (λ v=>ao rd n v) (λ x=>some x) r=some o->At E s1 R w β s3 a3 w3->Res E R0 w β s (λ e s'=>Q e s'/\ba s s') e a3 w3:=λ {e s3 a3 w3 r n} de hK hlr uo=>by
  obtain ⟨R3,β3,hx3,hr3,aeW,aoL⟩:=uo;have key:∀ {u:JT outs},qu s1 outs e s3=some u->r=.inr u->Res E R0 w β s (λ e s'=>Q e s'/\ba s s') e a3 w3:=λ {u} hu hru=>by
   subst hru;obtain rfl:=aaJ hlr;obtain ⟨t,v',q1,q2⟩:=zn hu;obtain ⟨j1,j2⟩:=dh.JD hx3 k1 hr3 aeW q1;exact ⟨t.st s1 v',_,_,hQ t v' _ q2,j1,k2.trans j2,k3⟩
  cases e with
  |normal=>exact absurd rfl de
  |exit i=>obtain ⟨u,q1,q2⟩:=bind_some (show ((qu s1 outs (.exit i) s3).bind λ o=>some (.inr o))=some r from hK); exact key q1 (aaJ q2).symm
  |ret=>obtain ⟨u,q1,q2⟩:=bind_some (show ((qu s1 outs .ret s3).bind λ o=>some (.inr o))=some r from hK); exact key q1 (aaJ q2).symm
  |goto i=>obtain ⟨u,q1,q2⟩:=bind_some (show ((qu s1 outs (.goto i) s3).bind λ o=>some (.inr o))=some r from hK); exact key q1 (aaJ q2).symm
  |panic i=>obtain ⟨u,q1,q2⟩:=bind_some (show ((qu s1 outs (.panic i) s3).bind λ o=>some (.inr o))=some r from hK); exact key q1 (aaJ q2).symm
  |outgrown=>obtain ⟨u,q1,q2⟩:=bind_some (show ((qu s1 outs .outgrown s3).bind λ o=>some (.inr o))=some r from hK); exact key q1 (aaJ q2).symm
 refine wW.at hf k b (hp s2 r hpr) uo (λ s3 a3 w3 hK aeX=>?_) (λ e s3 a3 w3 de hK aeX=>?_)
 .obtain ⟨v,q1,q2⟩:=bind_some (show ((head.dec s1 s3).bind λ v=>some (.inl v))=some r from hK);obtain rfl:=aaJ q2;have Cd:ao rd n v=some o:=hlr;cases n with
  |zero=>cases Cd
  |succ n=>
   obtain ⟨r',h1,h2⟩:=bind_some (show ((rd v).bind λ o=>abC (λ v'=>ao rd n v') (λ x=>some x) o)=some o from Cd);obtain ⟨R3,β3,hx3,hr3,aeW,aoL⟩:=aeX;obtain ⟨j1,j2⟩:=dh.JD hx3 k1 hr3 aeW q1;refine pG.at hf k b (hr v r' h1) ⟨_,_,head.va s1 v,j1,j2,rfl⟩ λ e s4 a4 w4 hK4 RM=>?_
   cases e with
   |normal=>exact ⟨n,ab1 n,s4,r',hK4,h2,RM⟩
   |exit i=>exact out (by simp) hK4 h2 RM
   |ret=>exact out (by simp) hK4 h2 RM
   |goto i=>exact out (by simp) hK4 h2 RM
   |panic i=>exact out (by simp) hK4 h2 RM
   |outgrown=>exact out (by simp) hK4 h2 RM
 .have:=out de hK hlr aeX;cases e with
  |normal=>exact absurd rfl de
  |_=>exact this
def xH {C:jj} {ih:EvT} (hs:A3 C ih) {X:Type} {f:FuncId} {K:Exit->St->Option X}:∀ (k:List Bool) (q:Nat) (c:Code) (s:St) (x:X),cI (C.D.dt f) c=true->U1 ih CW f K k q c s=some x->wW C.D.toEnv k c (λ e s'=>K e s'=some x) s
 |[],_,_,_,_,_,h=>h
 |true::k,q,c,s,x,hd,h=>by
  cases c with
  |seq a b=>
   rw [cI,aad] at hd;refine (hs f _ a X CW to _ s x hd.1 h).of λ e s' hq hx=>?_
   cases e with
   |normal=>exact ⟨xH hs k (2*q+1) b s' x hd.2 hq,hx⟩
   |_=>exact ⟨hq,hx⟩
  |_=>cases h
 |false::k,q,c,s,x,hd,h=>by
  cases c with
  |seq a b=>
   rw [cI,aad] at hd;exact xH hs k (2*q) a s x hd.1 h
  |_=>cases h
def pG.mono {E:Env}:∀ (k:List Bool) (c:Code) {Q Q':Exit->St->Prop} {s:St},(∀ e s',Q e s'->Q' e s')->pG E k c Q s->pG E k c Q' s
 |[],c,Q,Q',s,hQ,h=>iT.mono h λ e s' hh=>⟨hQ e s' hh.1,hh.2⟩
 |true::k,c,Q,Q',s,hQ,h=>by
  cases c with
  |seq x y=>exact pG.mono k y hQ h
  |_=>exact h.elim
 |false::k,c,Q,Q',s,hQ,h=>by
  cases c with
  |seq x y=>
   refine pG.mono k x (Q:=BF (pF E y Q) Q) (Q':=BF (pF E y Q') Q') (λ e s' hq=>?_) h;cases e with
   |normal=>exact iT.mono hq λ e s' hh=>⟨hQ e s' hh.1,hh.2⟩
   |_=>exact hQ _ s' hq
  |_=>exact h.elim
def xI {C:jj} {ih:EvT} (hs:A3 C ih) {X:Type} {f:FuncId}:∀ (k:List Bool) (q:Nat) (c:Code) (K:Exit->St->Option X) (s:St) (x:X),cI (C.D.dt f) c=true->YJ ih CW f k q c K s=some x->pG C.D.toEnv k c (λ e s'=>K e s'=some x) s
 |[],_,c,K,s,x,hd,h=>hs f _ c X CW to K s x hd h
 |true::k,q,c,K,s,x,hd,h=>by
  cases c with
  |seq a b=>
   rw [cI,aad] at hd;exact xI hs k (2*q+1) b K s x hd.2 h
  |_=>cases h
 |false::k,q,c,K,s,x,hd,h=>by
  cases c with
  |seq a b=>
   rw [cI,aad] at hd;refine pG.mono k a (λ e s' hq=>?_) (xI hs k (2*q) a _ s x hd.1 h);cases e with
   |normal=>exact hs f _ b X CW to K s' x hd.2 hq
   |_=>exact hq
  |_=>cases h
def EF {C:jj} (IN:∀ g e,C.NU g=some e->aK C.D.toEnv g e) (n:Nat):A3 C (ev C n):=by
 induction n using Nat.strongRecOn with
 |_ n ihn=>
 cases n with
 |zero=>intro f p c X iK _ K s x _ h; cases h
 |succ n=>
  have hs:=ihn n (ab1 n);have plain:∀ (f:FuncId) (p:Nat) (c:Code) (X:Type) (iK:Option X->Option X->Option X),BP iK->∀ (K:Exit->St->Option X) (s:St) (x:X),((∃ b,c=.loop b)->C.Ex f p=none) ->
    cI (C.D.dt f) c=true->Ey C (ev C n) f p c X iK K s=some x->pF C.D.toEnv c (λ e s'=>K e s'=some x) s:=by
   intro f p c X iK hm K s x nW hd h;have G4:=KZ IN hs hm;have akg:=N2 hs hm;unfold Ey at h;cases c with
   |skip=>exact iT.skip ⟨h,ba.refl s⟩
   |label l=>exact iT.label ⟨h,ba.refl s⟩
   |exit id=>exact iT.exit ⟨h,ba.refl s⟩
   |ret=>exact iT.ret ⟨h,ba.refl s⟩
   |seq a b=>
    rw [cI,aad] at hd;refine iT.seq ((hs f _ a X iK hm _ s x hd.1 h).of λ e s' hq hx=>?_);cases e with
    |normal=>exact (hs f _ b X iK hm _ s' x hd.2 hq).of λ e s2 Ix N4=>⟨Ix,hx.trans N4⟩
    |_=>exact ⟨hq,hx⟩
   |cond co a b=>
    rw [cI,aad] at hd;simp only at h;split at h
    .rename_i t hb;refine iT.cond hb (λ e=>?_) (λ e=>?_)
     .subst e; exact hs f _ a X iK hm _ s x hd.1 h
     .subst e; exact hs f _ b X iK hm _ s x hd.2 h
    .cases h
   |block id c=>
    refine iT.block ((hs f _ c X iK hm _ s x hd h).of λ e s' hq hx=>?_);cases e with
    |exit nV=>
     simp only [UT] at hq;refine ⟨λ e=>?_,λ e=>?_⟩
     .subst e; rw [yw] at hq; exact ⟨hq,hx⟩
     .rw [sS e] at hq; exact ⟨hq,hx⟩
    |_=>exact ⟨hq,hx⟩
   |scope c=>
    refine iT.scope ((hs f _ c X iK hm _ s x hd h).of λ e s' hq hx=>?_);cases e with
    |goto l=>cases hq
    |_=>exact ⟨hq,hx⟩
   |region id ops dr=>
    cases dr with
    |false=>exact iT.region (f:=f) (G9 (EE G4 akg h))
    |true=>
     simp only at h;rw [cI] at hd;split at h
     .rename_i pl hT;rw [hT] at hd;exact iT.draw (f:=f) hd (zl (nF G4 akg hm h))
     .cases h
   |loop b=>
    have acC:=nW ⟨b,rfl⟩;refine iT.loop (λ m s'=>m<=n+1/\ev C m f p (.loop b) X iK K s'=some x/\ba s s') ?_ (m:=n+1) ⟨aaR _,?_,ba.refl s⟩
    .rintro m s' ⟨Tc,hr,hx⟩;cases m with
     |zero=>cases hr
     |succ m=>
      have nu:Ez C (ev C m) f p (.loop b) X iK K s'=some x:=hr;unfold Ez at nu;rw [acC] at nu;refine (ihn m (by omega) f _ b X iK hm _ s' x hd nu).of λ e s2 hq N4=>?_
      cases e with
      |normal=>exact ⟨m,ab1 m,by omega,hq,hx.trans N4⟩
      |_=>exact ⟨hq,hx.trans N4⟩
    .show Ez C (ev C n) f p (.loop b) X iK K s=some x;unfold Ez;rw [acC];exact h
   |rangeFunc g ps xz bd=>
    simp only at h;split at h
    .rename_i ck;split at h
     .rename_i hf first cap hg
      refine iT.rangeFunc (4096*p+f) ck hg ((G4 _ _ _ _ _ h).mono λ r G' hq=>?_);unfold rfQ;split at hq
      .rename_i busy pending fn sl nn pp aa bb dd done En;rw [En];simp only;obtain ⟨h1,h2⟩:=bZ hq;refine ⟨by cases busy <;> cases done <;> simp_all,?_⟩;have Yz:∀ (G:List GO) (m:List Nat),ba s ⟨s.ae,s.boxes,G,m,s.ro,s.n⟩:=λ _ _=>⟨⟨[],rfl⟩,⟨[],rfl⟩,rfl⟩
       split at h2
       .rw [fE] at h2; exact ⟨h2,Yz _ _⟩
       .rw [fE] at h2; exact iT.ret ⟨h2,Yz _ _⟩
       .rw [fE] at h2; exact iT.exit ⟨h2,Yz _ _⟩
       .cases h2
      .cases hq
     .cases h
    .rename_i id ck;split at h
     .rename_i bu0 p0 fn0 sl0 n0 ps0 as0 bd0 d0 dn0 aoM;split at h
      .rename_i hf first cap hg
       refine iT.NM (4096*p+f) ck aoM hg ((G4 _ _ _ _ _ h).mono λ r G' hq=>?_);unfold aeK;split at hq
       .rename_i busy pending fn sl nn pp aa bb dd done En;rw [En];simp only;obtain ⟨h1,h2⟩:=bZ hq;refine ⟨by cases busy <;> cases done <;> simp_all,?_⟩;have Yz:∀ (G:List GO) (m:List Nat),ba s ⟨s.ae,s.boxes,G,m,s.ro,s.n⟩:=λ _ _=>⟨⟨[],rfl⟩,⟨[],rfl⟩,rfl⟩
        split at h2
        .rw [fE] at h2; exact ⟨h2,Yz _ _⟩
        .rw [fE] at h2; exact iT.ret ⟨h2,Yz _ _⟩
        .rw [fE] at h2; exact iT.exit ⟨h2,Yz _ _⟩
        .cases h2
       .cases hq
      .cases h
     .cases h
   |_=>cases h
  intro f p c X iK hm K s x hd h;change Ez C (ev C n) f p c X iK K s=some x at h;unfold Ez at h;split at h
  .rename_i hc;exact plain f p c X iK hm K s x (λ _=>hc) hd h
  .rename_i ct hct;split at h
   .rename_i zo hc;generalize uY (lX c []) zo=outs at h;cases Uj:UW c with
    |true=>rw [Uj] at h; cases h
    |false=>
    rw [Uj] at h;obtain ⟨o,h1,h2⟩:=bind_some (show (Ey C (ev C n) f p c (JT outs) CW (qu s outs) s).bind (λ o=>XH s outs o K)=some x from h);have hp:=plain f p c (JT outs) CW to (qu s outs) s o (λ ⟨b,hb⟩=>by subst hb; cases Uj) hd h1;refine iT.aoE (s:=s) (Q':=λ e s'=>qu s outs e s'=some o) (iT.mono hp λ e s' hh=>⟨hh.2,hh.1⟩) λ e s' hq=>?_
    obtain ⟨t,v,q1,q2⟩:=zn hq;exact ⟨t,v,q1,(q2 _ K).symm.trans h2,t.va s v⟩
   .rename_i gh zp zo hc;split at h
    .rename_i b;split at h
     .rename_i s1 hg;generalize uY (lX b []) zo=outs at h;generalize uX (lX b []) zp=head at h;unfold acA at h;obtain ⟨v0,h0,h⟩:=bind_some h;obtain ⟨o,hl,h⟩:=bind_some h;refine iT.akf hg h0 (λ v r hr=>hs f _ b _ CW to _ _ r hd hr) hl λ t v e kx=>?_
      exact ⟨(kx _ K).symm.trans h,(pE hg).trans (t.va s1 v)⟩
     .cases h
    .cases h
   .rename_i k gh zp zo hc;split at h
    .rename_i b;split at h
     .rename_i s1 hg;generalize uY (lX b []) zo=outs at h;generalize uX (lX b []) zp=head at h;unfold ake at h;obtain ⟨o,hl,h⟩:=bind_some h;obtain ⟨r0,h0,hl⟩:=bind_some hl;refine iT.YK hg h0 (λ s2 r hr=>xH hs k (2*p) b s2 r hd hr) (λ v r hr=>xI hs k (2*p) b _ _ r hd hr) hl λ t v e kx=>?_
      exact ⟨(kx _ K).symm.trans h,(pE hg).trans (t.va s1 v)⟩
     .cases h
    .cases h
   .rename_i gh zp zo hc;split at h
    .rename_i b;split at h
     .rename_i s1 hg;generalize uY (lX b []) zo=outs at h;generalize uX (lX b []) zp=head at h;unfold UY at h;obtain ⟨v0,h0,h⟩:=bind_some h;obtain ⟨o,hl,h⟩:=bind_some h;refine iT.aeU hg h0 (λ k v u hu=>hs f _ b _ CW to _ _ u hd hu) hl λ t v e kx=>?_
      exact ⟨(kx _ K).symm.trans h,(pE hg).trans (t.va s1 v)⟩
     .cases h
    .cases h
   .rename_i gh zp hc;split at h
    .rename_i b;split at h
     .rename_i s1 hg;generalize uX (lX b []) zp=head at h;unfold U0 at h;obtain ⟨v0,h0,hl⟩:=bind_some h;exact iT.aeV hg h0 (λ k v u hu=>hs f _ b _ CW to _ _ u hd hu) hl
     .cases h
    .cases h
   .rename_i tq sz ty zp zo hc;split at h
    .rename_i b;split at h
     .rename_i cc s1 hg;cases cc with
      |false=>cases h
      |true=>
      generalize uY (lX b []) zo=outs at h;generalize uX (lX b []) zp=head at h;have h:NX C (ev C n) f p b s1 head outs tq sz ty K=some x:=h;unfold NX at h;cases (show none=some _ from h)
     .cases h
    .cases h
   .cases h
noncomputable def jj.fn (C:jj) (n:Nat) (g:FuncId) (ps:a6) (p:aF) (x:ps.T):Option p.T:=
 G7 C (ev C n) CW g (ps.enc x) [] (λ r _=>p.dec r)
def jj.dQ {C:jj} (IN:∀ g e,C.NU g=some e->aK C.D.toEnv g e) {n:Nat} {ps:a6} {p:aF} (h1:ps.under 0=true:=by kernel_rfl) (h2:p.under 0=true:=by kernel_rfl) :
  aK C.D.toEnv g ⟨ps,p,C.fn n g ps p⟩:=λ x y h=>by
 refine cw.mono (cw.of (p:=p) (Q:=λ z=>z=y) (ps.fQ x h1) h2 ((qJ (EF IN n) to g _ [] _ y h).mono λ r _ hr=>⟨y,hr,rfl⟩)) ?_;rintro r ⟨z,rfl,rfl⟩;rfl
noncomputable def jj.fnX (C:jj) (n:Nat) (g:FuncId) (ps:a6) (outs:List RF) (x:ps.T):Option (XT outs):=
 G7 C (ev C n) CW g (ps.enc x) [] (λ r G=>RG G r outs)
def jj.U4 {C:jj} (IN:∀ g e,C.NU g=some e->aK C.D.toEnv g e) {n:Nat} {g:FuncId} {ps:a6} {outs:List RF} (h1:ps.under 0=true) (h2:outs.all RF.under=true) :
  ∀ x y,C.fnX n g ps outs x=some y->tj C.D.toEnv g (ps.enc x) outs (λ z=>z=y):=λ x y h=>
 tj.of (ps.fQ x h1) (List.all_eq_true.1 h2) ((qJ (EF IN n) to g _ [] _ y h).mono λ r G' hr=>⟨y,hr,rfl⟩)
def cw.env {Q:AV->Prop} (hP:E.P=E'.P) (hg:E.fU=E'.fU) (h:cw E g args Q) (FX:E.lo=E'.lo:=by rfl) (hgx:E.gx=E'.gx:=by rfl):cw E' g args Q:=by
 have go:∀ {R:ak} {w:World} {x:Nat} {cs:List AV},qR E R w x cs↔qR E' R w x cs:=λ {R w x cs}=>by unfold qR; rw [hgx]
 have JD:∀ {R:ak} {w:World} {G:List GO},ij E R w G↔ij E' R w G:=λ {R w G}=>
  ⟨λ h=>⟨h.len,h.obj,h.inj,h.wf,λ g cs hh=>go.1 (h.fU g cs (by rw [hg]; exact hh)),by rw [<- FX]; exact h.lo⟩,λ h=>⟨h.len,h.obj,h.inj,h.wf,λ g cs hh=>go.2 (h.fU g cs (by rw [<- hg]; exact hh)),by rw [FX]; exact h.lo⟩⟩
 intro G;obtain ⟨h1,h2⟩:=h G;rw [hP] at h1 h2;refine ⟨h1,λ R w cs hr hl=>(h2 R w cs (JD.2 hr) hl).mono λ e w' he=>?_⟩;cases e with
 |returned c=>obtain ⟨r,G',R',k1,k2,k3,k4⟩:=he; exact ⟨r,G',R',k1,k2,JD.1 k3,k4⟩
 |panicked c=>exact he
 |outgrown=>exact he
def cw.more {Q:AV->Prop} (hP:E.P=E'.P) (hg:∀ g cs,E.fU g=some cs->E'.fU g=some cs) (h:cw E g args Q) (FX:E.lo=E'.lo:=by rfl) (hgx:E.gx=λ _=>false:=by rfl):cw E' g args Q:=by
 intro G;obtain ⟨h1,h2⟩:=h G;rw [hP] at h1 h2;refine ⟨h1,λ R w cs hr hl=>(h2 R w cs ⟨hr.len,hr.obj,hr.inj,hr.wf,λ g cs hh=>⟨(hr.fU g cs (hg g cs hh)).1,λ hx=>by rw [hgx] at hx; cases hx⟩,by rw [FX]; exact hr.lo⟩ hl).mono λ e w' he=>?_⟩;cases e with
 |returned c=>
  obtain ⟨r,G',R',k1,k2,k3,k4⟩:=he;exact ⟨r,G',R',k1,k2,⟨k3.len,k3.obj,k3.inj,k3.wf,λ g cs hh=>(hr.fU g cs hh).mono k4.ext,by rw [<- FX]; exact k3.lo⟩,k4⟩
 |panicked c=>exact he
 |outgrown=>exact he
def Gg:List (Nat×bJ)->FuncId->Option bJ
 |[],_=>none
 |(a,e)::l,g=>bif abk a g then some e else Gg l g
def iW {E:Env}:∀ {l:List (Nat×bJ)},(∀ a e,(a,e)∈l->aK E a e)->∀ g e,Gg l g=some e->aK E g e
 |[],_,g,e,h=>by cases h
 |(a,x)::l,hl,g,e,h=>by
  unfold Gg at h;cases hb:abk a g with
  |true=>
   rw [hb] at h;cases h;rw [<- aaK hb];exact hl a _ (by simp)
  |false=>
   rw [hb] at h;exact iW (λ a e hm=>hl a e (by simp [hm])) g e h
def oV :∀ g e,Gg [] g=some e->aK E g e:=λ _ _ h=>by cases h
def jw {a:Nat} {x:bJ} {l:List (Nat×bJ)} (hx:aK E a x) (hl:∀ g e,Gg l g=some e->aK E g e):∀ g e,Gg ((a,x)::l) g=some e->aK E g e:=λ g e h=>by
 unfold Gg at h;cases hb:abk a g with
 |true=>
  rw [hb] at h;cases h;rw [<- aaK hb];exact hx
 |false=>
  rw [hb] at h;exact hl g e h
def acD:List (Nat×dF)->Nat->Option dF
 |[],_=>none
 |(a,c)::l,p=>bif abk a p then some c else acD l p
def acE:List (Nat×List (Nat×dF))->FuncId->Nat->Option dF
 |[],_,_=>none
 |(a,c)::l,g,p=>bif abk a g then acD c p else acE l g p
def PH:Option Unit->Option Unit->Option Unit
 |some _,some _=>some ()
 |_,_=>none
def N5:BP PH:=λ a b x h=>by
 cases a <;> cases b <;> first | (cases h; done) | exact ⟨rfl,rfl⟩
def dX {C:jj} (IN:∀ g e,C.NU g=some e->aK C.D.toEnv g e) {n:Nat} {p:aF} {ok:p.T->Bool} (h1:aY 0 args=true) (h2:p.under 0=true)
  (h:G7 C (ev C n) PH g args [] (λ r _=>bif p.fits r&&ok (p.bW r) then some () else none)=some ()):cw C.D.toEnv g args (λ r=>∃ y,r=p.enc y/\ok y=true):=
 cw.of (p:=p) (Q:=λ y=>ok y=true) h1 h2 ((qJ (EF IN n) N5 g args [] _ () h).mono λ r _ hr=>by
  obtain ⟨k,_⟩:=bZ hr;rw [aad] at k;exact ⟨p.bW r,by simp [aF.dec,k.1],k.2⟩)
def xJ (w:World):ak:=⟨λ b _=>b < w.heap.size,[]⟩
mutual
def aF.wf:(p:aF)->p.T->Prop
 |.int k,(n:Int)=>k.min<=n/\n<=k.max
 |.bool,_=>True
 |.str,(s:List UInt8)=>s.length<=maxLen
 |.agg ps,x=>ps.wf x
 |.cD ps,x=>ps.wf x
 |.list _ p,(xs:List p.T)=>xs.length<=maxLen/\∀ x∈xs,p.wf x
 |.own _ _ p,(xs:List p.T)=>xs.length<=maxLen/\∀ x∈xs,p.wf x
 |.bC _ _ p,(x:Nat×List p.T)=>x.2.length<=maxLen/\∀ y∈x.2,p.wf y
 |.gW _ _,_=>True
 |.bD _,_=>True
 |.two _ _,_=>True
def a6.wf:(ps:a6)->ps.T->Prop
 |.nil,_=>True
 |.cons p .nil,x=>p.wf x
 |.cons p (.cons q ps),x=>p.wf x.1/\(a6.cons q ps).wf x.2
end
def pH:List aF->a6
 |[]=>.nil
 |p::l=>.cons p (pH l)
def RN {β:Type} (g:β->Option (List aF)):List β->Option (List aF)
 |[]=>some []
 |x::l=>match g x,RN g l with
  |some a,some b=>some (a++b)
  |_,_=>none
def zq {β:Type} (off len:β->Nat):Nat->List β->Option Nat
 |o,[]=>some o
 |o,x::l=>bif abk (off x) o then zq off len (o+len x) l else none
def isSome (n:Nat):Option Nat->Bool
 |some m=>abk m n
 |none=>false
def zr (ag:Bool) (ps:List aF):Option aF:=match ag,ps with
 |true,ps=>some (.agg (pH ps))
 |false,[p]=>some p
 |_,_=>none
def RQ (P:Program):Nat->TypeId->Option (List aF)
 |0,_=>none
 |n+1,t=>match P.underlying t with
  |some .bool=>some [.bool]
  |some (.int k)=>some [.int k]
  |some .string=>some [.str]
  |some (.slice e)=>match RQ P n e,P.underlying e with
   |some ps,some u=>match zr (Go.Am.nX u) ps with
    |some pe=>bif acV 0 (P.cellsOf e) then some [.list (P.cellsOf e) pe] else none
    |none=>none
   |_,_=>none
  |some (.struct fs)=>bif isSome (P.cellsOf t) (zq adh (λ f=>P.cellsOf f.type) 0 fs.toList) then RN (λ f=>RQ P n f.type) fs.toList else none
  |some (.array m e)=>bif isSome (P.cellsOf t) (zq (λ i=>i*P.cellsOf e) (λ _=>P.cellsOf e) 0 (ab6 m)) then RN (λ _=>RQ P n e) (ab6 m) else none
  |_=>none
def aoO (a:AV):Prop:=a.bN=true/\a.cells=[a]/\a.closed=true
def xK:List aF->List AV->Prop
 |[],[]=>True
 |p::ps,a::qK=>p.fits a=true/\(p.wf (p.bW a)/\aoO a)/\xK ps qK
 |_,_=>False
def xK.append:∀ {ps qs:List aF} {qK bs:List AV},xK ps qK->xK qs bs->xK (ps++qs) (qK++bs)
 |[],_,[],_,_,h=>h
 |_::_,_,_::_,_,k,h=>⟨k.1,k.2.1,xK.append k.2.2 h⟩
 |[],_,_::_,_,h,_=>h.elim
 |_::_,_,[],_,h,_=>h.elim
def xK.mk:∀ {ps:List aF} {qK:List AV},xK ps qK->(pH ps).fits qK=true/\(pH ps).wf ((pH ps).bW qK)
 |[],[],_=>⟨rfl,trivial⟩
 |[p],[a],h=>⟨by
   change (p.fits a&&(List.isEmpty ([]:List AV)))=true;rw [h.1];rfl,h.2.1.1⟩
 |p::q::ps,a::qK,h=>by
  obtain ⟨h1,h2⟩:=xK.mk (ps:=q::ps) h.2.2;refine ⟨?_,h.2.1.1,h2⟩;change (p.fits a&&(pH (q::ps)).fits qK)=true;rw [h.1,h1];rfl
 |[],_::_,h=>h.elim
 |_::_,[],h=>h.elim
 |[_],_::_::_,h=>h.2.2.elim
def K2 {ag:Bool} (h:zr ag ps=some pe) (hf:xK ps qK) :
  ∃ e,(if ag then e=.agg qK else qK=[e])/\pe.fits e=true/\pe.wf (pe.bW e):=by
 unfold zr at h;split at h
 .cases h;obtain ⟨h1,h2⟩:=hf.mk;exact ⟨.agg qK,rfl,h1,h2⟩
 .rename_i p;cases h
  match qK,hf with
  |[a],hf=>exact ⟨a,rfl,hf.1,hf.2.1.1⟩
  |[],hf=>exact hf.elim
  |_::_::_,hf=>exact hf.2.2.elim
 .cases h
def PI:∀ {ps:List aF} {qK:List AV},xK ps qK->∀ a∈qK,a.bN=true/\a.cells=[a]/\a.closed=true
 |[],[],_,a,ha=>by simp at ha
 |_::_,b::qK,hf,a,ha=>by
  rcases aa5.1 ha with rfl|ha
  .exact hf.2.1.2
  .exact PI hf.2.2 a ha
 |[],_::_,h,_,_=>h.elim
 |_::_,[],h,_,_=>h.elim
def PJ {pe:aF}:∀ {es:List AV},(∀ x∈es,pe.fits x=true/\pe.wf (pe.bW x))->allFit pe.fits es=true/\∀ x∈es.map pe.bW,pe.wf x
 |[],_=>⟨rfl,by simp⟩
 |a::es,h=>by
  obtain ⟨h1,h2⟩:=PJ (es:=es) λ x hx=>h x (by simp [hx])
  refine ⟨by simp only [allFit,aad]; exact ⟨(h a (by simp)).1,h1⟩,λ x hx=>?_⟩;rcases aa5.1 hx with rfl|hx
  .exact (h a (by simp)).2
  .exact h2 x hx
section read
variable {enc:TypeId×Value->H} {P:Program} {base:Nat} {spare:Nat->Bool} {held:Bool}
def pJ {β:Type} {f:α->Option β} {x:α} {l:List α} {r:List β} (h:(x::l).mapM f=some r):∃ y ys,f x=some y/\l.mapM f=some ys/\r=y::ys:=by
 rw [List.mapM_cons] at h;cases hx:f x with
 |none=>rw [hx] at h; cases h
 |some y=>
  rw [hx] at h;cases hl:l.mapM f with
  |none=>rw [hl] at h; cases h
  |some ys=>rw [hl] at h; cases h; exact ⟨y,ys,rfl,rfl,rfl⟩
def EG {β:Type} {off len:β->Nat} {g:β->Option (List aF)} {cs:List Value} {f:β->Option (DataW H×List MemPlace)}
  (hf:∀ x ps y,g x=some ps->f x=some y->∃ qK,bj R w qK ((cs.drop (off x)).take (len x))/\xK ps qK/\∀ v∈(cs.drop (off x)).take (len x),v.oneCell'=true) :
  ∀ {L:List β} {o m:Nat} {ps:List aF} {ys:List (DataW H×List MemPlace)},zq off len o L=some m->RN g L=some ps->L.mapM f=some ys ->
   o<=m/\∃ qK,bj R w qK ((cs.drop o).take (m - o))/\xK ps qK/\∀ v∈(cs.drop o).take (m - o),v.oneCell'=true
 |[],o,m,ps,ys,ht,hp,_=>by
  simp only [zq] at ht;simp only [RN] at hp;cases ht; cases hp;exact ⟨aaR _,[],by simpa using bj.nil,trivial,by simp⟩
 |x::L,o,m,ps,ys,ht,hp,hm=>by
  unfold zq at ht;cases hb:abk (off x) o with
  |false=>rw [hb] at ht; cases ht
  |true=>
   rw [hb] at ht;have hb:=aaK hb;unfold RN at hp;split at hp
   .rename_i pa pb h1 h2;cases hp;obtain ⟨y,ys',k1,k2,rfl⟩:=pJ hm;obtain ⟨qK,q1,q2,q3⟩:=hf x pa y h1 k1;obtain ⟨hle,bs,r1,r2,r3⟩:=EG hf (show zq off len (o+len x) L=some m from ht) h2 k2;have e:(cs.drop o).take (m - o)=(cs.drop (off x)).take (len x)++(cs.drop (o+len x)).take (m - (o+len x)):=by
     rw [hb,show m - o=len x+(m - (o+len x)) by omega,List.take_add,List.drop_drop]
    rw [e];refine ⟨by omega,qK++bs,q1.append r1,q2.append r2,λ v hv=>?_⟩;rcases List.mem_append.1 hv with hv|hv
    .exact q3 v hv
    .exact r3 v hv
   .cases hp
def rV {α β:Type} {f:α->Option β}:∀ {l:List α} {r:List β},l.mapM f=some r->∀ (i:Nat) (x:α),l[i]?=some x->∃ y,r[i]?=some y/\f x=some y
 |[],r,_,i,x,hx=>by simp at hx
 |a::l,r,h,i,x,hx=>by
  obtain ⟨y,ys,h1,h2,rfl⟩:=pJ h;cases i with
  |zero=>simp at hx; subst hx; exact ⟨y,by simp,h1⟩
  |succ i=>obtain ⟨z,h3,h4⟩:=rV h2 i x (by simpa using hx); exact ⟨z,by simpa using h3,h4⟩
def BR {α β:Type} {f:α->Option β}:∀ {l:List α} {r:List β},l.mapM f=some r->r.length=l.length
 |[],r,h=>by simp at h; subst h; rfl
 |a::l,r,h=>by
  obtain ⟨y,ys,h1,h2,rfl⟩:=pJ h;simp [BR h2]
def YL {a:Addr} (h:w.cell? a=some v):a.block < w.heap.size:=by
 unfold World.cell? at h;split at h
 .rename_i hb; exact cu hb
 .cases h
def Ha {e:TypeId} {ps:List aF} {pe:aF} {ag:Bool} {zt:Nat} (hp:∀ (cs:List Value) (y:DataW H×List MemPlace),aba enc P w base spare held zt e cs=some y->∃ qK,bj (xJ w) w qK cs/\xK ps qK/\∀ v∈cs,v.oneCell'=true) (he:zr ag ps=some pe) {b off len:Nat} {r:List (DataW H×List MemPlace)}
  (h:(ab6 len).mapM (λ i=>(w.cells? base ((⟨b,off,none⟩:Addr).add (i*P.cellsOf e)) (P.cellsOf e)).bind (aba enc P w base spare held zt e))=some r) :
  ∀ (m i:Nat),i+m=len->∃ es,lK (xJ w) w b (off+i*P.cellsOf e) (P.cellsOf e) es/\es.length=m/\∀ x∈es,pe.fits x=true/\pe.wf (pe.bW x)
 |0,i,_=>⟨[],.nil,rfl,by simp⟩
 |m+1,i,hi=>by
  obtain ⟨es,h1,h2,h3⟩:=Ha hp he h m (i+1) (by omega);obtain ⟨y,_,hy⟩:=rV h i i (by rw [ab3 (by omega)]);obtain ⟨cs,hc,hy⟩:=bind_some hy;obtain ⟨qK,q1,q2,q3⟩:=hp _ _ hy;obtain ⟨x,hx,f1,f2⟩:=K2 he q2;have EH:w.cells? base ((⟨b,off,none⟩:Addr).add (i*P.cellsOf e)) (P.cellsOf e)=some cs:=hc;unfold World.cells? at EH;split at EH
  .have hlen:=BR EH;rw [List.length_range] at hlen;have nW:x.cells=qK/\x.bN=true/\x.closed=true:=by
    have zf:=PI q2;cases ag with
    |true=>
     simp only [if_true] at hx;subst hx;refine ⟨rfl,rfl,?_⟩;show aZ qK=true;clear h1 h2 h3 q1 q2 f1 f2
     induction qK with
     |nil=>rfl
     |cons a qK ih=>simp only [aZ,aad]; exact ⟨(zf a (by simp)).2.2,ih (λ z hz=>zf z (by simp [hz]))⟩
    |false=>
     simp only [Bool.false_eq_true,if_false] at hx;subst hx;obtain ⟨k1,k2,k3⟩:=zf x (by simp);exact ⟨k2,k1,k3⟩
   have oA:∀ j v,cs[j]?=some v->w.cell? ⟨b,off+i*P.cellsOf e+j,none⟩=some v:=λ j v hv=>by
    have hj:j < P.cellsOf e:=by have:=(List.getElem?_eq_some_iff.1 hv).1; omega
    obtain ⟨v',k1,k2⟩:=rV EH j j (by rw [ab3 hj]);rw [hv] at k1;cases k1;rw [eZ,eZ] at k2;exact k2
   refine ⟨x::es,.cons ?_ nW.2.1 nW.2.2 ?_ ?_,by simp [h2],λ z hz=>?_⟩
   .rw [nW.1,q1.length,hlen]
   .rw [nW.1];refine jG.make q1 q3 oA (λ j hj=>?_);have Mj:j < cs.length:=by rw [<- q1.length]; exact hj
    exact YL (oA j cs[j] (aaL Mj))
   .rw [show off+i*P.cellsOf e+P.cellsOf e=off+(i+1)*P.cellsOf e by rw [Nat.add_mul]; omega];exact h1
   .rcases aa5.1 hz with rfl|hz
    .exact ⟨f1,f2⟩
    .exact h3 z hz
  .cases EH
def zu (N6:∀ b,spare b=true):∀ (n:Nat) {t:TypeId} {ps:List aF},RQ P n t=some ps->∀ {zt:Nat} {cs:List Value} {y:DataW H×List MemPlace},aba enc P w base spare held zt t cs=some y ->
  ∃ qK,bj (xJ w) w qK cs/\xK ps qK/\∀ v∈cs,v.oneCell'=true
 |0,_,_,h,_,_,_,_=>by cases h
 |n+1,t,ps,h,0,_,_,hy=>by cases hy
 |n+1,t,ps,h,zt+1,cs,y,hy=>by
  unfold RQ at h;unfold aba at hy;split at h
  .rename_i hu;cases h;rw [hu] at hy;cases cs with
   |nil=>cases hy
   |cons v l=>
    cases l with
    |cons v2 l=>(cases v <;> first | (cases hy; done) | (rename_i a; cases a <;> cases hy; done) | (rename_i a b; cases a <;> cases hy; done) | (rename_i a b c; cases a <;> first | (cases hy; done) | (cases b <;> first | (cases hy; done) | (cases c <;> cases hy))))
    |nil=>
     cases v with
     |bool b=>exact ⟨[.bool b],.one (.bool b),⟨rfl,⟨trivial,rfl,rfl,rfl⟩,trivial⟩,by simp [ab7]⟩
     |pointer a=>cases a <;> cases hy
     |slice a b c=>cases a <;> first | (cases hy; done) | (cases b <;> first | (cases hy; done) | (cases c <;> cases hy))
     |map a=>cases a <;> cases hy
     |chan a=>cases a <;> cases hy
     |_=>cases hy
  .rename_i k hu;cases h;rw [hu] at hy;cases cs with
   |nil=>cases hy
   |cons v l=>
    cases l with
    |cons v2 l=>(cases v <;> first | (cases hy; done) | (rename_i a; cases a <;> cases hy; done) | (rename_i a b; cases a <;> cases hy; done) | (rename_i a b c; cases a <;> first | (cases hy; done) | (cases b <;> first | (cases hy; done) | (cases c <;> cases hy))))
    |nil=>
     cases v with
     |int k' i=>
      have hy:(if k'=k/\(Lit.int k i).wf=true then some (.lit (.int k i),[]) else none)=some y:=hy;split at hy
      .rename_i hc;obtain ⟨rfl,hw⟩:=hc;exact ⟨[.int k' i],.one (.int k' i),⟨decide_eq_true rfl,⟨by have h:=hw; simp [Lit.wf] at h; exact h,rfl,rfl,rfl⟩,trivial⟩,by simp [ab7]⟩
      .cases hy
     |pointer a=>cases a <;> cases hy
     |slice a b c=>cases a <;> first | (cases hy; done) | (cases b <;> first | (cases hy; done) | (cases c <;> cases hy))
     |map a=>cases a <;> cases hy
     |chan a=>cases a <;> cases hy
     |_=>cases hy
  .rename_i hu;cases h;rw [hu] at hy;cases cs with
   |nil=>cases hy
   |cons v l=>
    cases l with
    |cons v2 l=>(cases v <;> first | (cases hy; done) | (rename_i a; cases a <;> cases hy; done) | (rename_i a b; cases a <;> cases hy; done) | (rename_i a b c; cases a <;> first | (cases hy; done) | (cases b <;> first | (cases hy; done) | (cases c <;> cases hy))))
    |nil=>
     cases v with
     |string s=>
      have hy:(if s.size<=maxLen then some (.lit (.string s.data.toList),[]) else none)=some y:=hy;split at hy
      .rename_i hc;exact ⟨[.str s.data.toList],.one (.str s.data.toList),⟨rfl,⟨by simpa [aF.wf,aF.bW,AV.adE] using hc,rfl,rfl,rfl⟩,trivial⟩,by simp [ab7]⟩
      .cases hy
     |pointer a=>cases a <;> cases hy
     |slice a b c=>cases a <;> first | (cases hy; done) | (cases b <;> first | (cases hy; done) | (cases c <;> cases hy))
     |map a=>cases a <;> cases hy
     |chan a=>cases a <;> cases hy
     |_=>cases hy
  .rename_i e hu;rw [hu] at hy;split at h
   .rename_i ps' u h1 h2;split at h
    .rename_i pe h3;obtain ⟨hz,h⟩:=bZ h;cases h;have hz:=acW hz;cases cs with
     |nil=>cases hy
     |cons v l=>
      cases l with
      |cons v2 l=>(cases v <;> first | (cases hy; done) | (rename_i a; cases a <;> cases hy; done) | (rename_i a b; cases a <;> cases hy; done) | (rename_i a b c; cases a <;> first | (cases hy; done) | (cases b <;> first | (cases hy; done) | (cases c <;> cases hy))))
      |nil=>
       cases v with
       |slice a len cap=>
        cases a with
        |none=>
         have hz:len=0/\cap=0:=by
          cases len with
          |zero=>cases cap with
           |zero=>exact ⟨rfl,rfl⟩
           |succ _=>cases hy
          |succ _=>cases hy
         obtain ⟨rfl,rfl⟩:=hz;exact ⟨[.list .bV (P.cellsOf e) []],.one .kP,⟨by simp [aF.fits,allFit],⟨⟨abN _,λ x hx=>by change x∈([]:List pe.T) at hx; cases hx⟩,rfl,rfl,rfl⟩,trivial⟩,by simp [ab7]⟩
        |some a=>
         have hy:(if base<=a.block/\len<=cap/\cap<=maxLen then
          ((ab6 len).mapM (λ i=>(w.cells? base (a.add (i*P.cellsOf e)) (P.cellsOf e)).bind (aba enc P w base spare held zt e))).bind λ PK=>
           (if spare a.block then (ab6 (cap - len)).mapM (λ j=>(w.cells? base (a.add ((len+j)*P.cellsOf e)) (P.cellsOf e)).bind (aba enc P w base spare held zt e)) else some []).map λ rest=>
            (DataW.slice (PK.map (·.1)) (rest.map (·.1)),MemPlace.row a ((PK.length+rest.length)*P.cellsOf e)++(PK++rest).flatMap (·.2))
          else none)=some y:=hy
         split at hy
         .rename_i hc;obtain ⟨PK,k1,hy⟩:=bind_some hy;rw [if_pos (N6 _)] at hy;by_cases lS:cap=0
          .subst lS;have CL:len=0:=Nat.le_zero.1 hc.2.1;subst CL;exact ⟨[.list .bV (P.cellsOf e) []],.one .pd,⟨by simp [aF.fits,allFit],⟨⟨abN _,λ x hx=>by change x∈([]:List pe.T) at hx; cases hx⟩,rfl,rfl,rfl⟩,trivial⟩,by simp [ab7]⟩
          .have U5:a.spot=none:=by
            have aeE:∃ y,(w.cells? base (a.add (0*P.cellsOf e)) (P.cellsOf e)).bind (aba enc P w base spare held zt e)=some y:=by
             by_cases CL:len=0
             .subst CL;cases hr:(ab6 (cap - 0)).mapM (λ j=>(w.cells? base (a.add ((0+j)*P.cellsOf e)) (P.cellsOf e)).bind (aba enc P w base spare held zt e)) with
              |none=>rw [hr] at hy; cases hy
              |some r=>
               obtain ⟨z,_,hz⟩:=rV hr 0 0 (by rw [ab3 (by omega)]);exact ⟨z,hz⟩
             .obtain ⟨z,_,hz⟩:=rV k1 0 0 (by rw [ab3 (by omega)]);exact ⟨z,hz⟩
            obtain ⟨z,hz'⟩:=aeE;obtain ⟨cs,xm,_⟩:=bind_some hz';unfold World.cells? at xm;split at xm
            .obtain ⟨v,_,hv⟩:=rV xm 0 0 (by rw [ab3 (by omega)]);rw [aci] at hv;unfold World.cell? at hv;split at hv
             .split at hv
              .cases hv
              .rename_i hs;simpa [Addr.add] using hs
             .cases hv
            .cases xm
           obtain ⟨b,off,spot⟩:=a;have U5:spot=none:=U5;subst U5;obtain ⟨es,q1,q2,q3⟩:=Ha (λ cs y hy=>zu N6 n h1 hy) h3 k1 len 0 (by omega);rw [aci,Nat.add_zero] at q1;obtain ⟨f1,f2⟩:=PJ q3;refine ⟨[.list .bV (P.cellsOf e) es],.one (.list q1 q2.symm hc.2.1 trivial),⟨?_,⟨⟨?_,f2⟩,rfl,rfl,rfl⟩,trivial⟩,by simp [ab7]⟩
           .simp only [aF.fits,aad,acM];exact ⟨.inl (Nat.beq_refl _),f1⟩
           .have:es.length<=maxLen:=by rw [q2]; omega
            show (es.map pe.bW).length<=maxLen;rw [acN];exact this
         .cases hy
       |pointer a=>cases a <;> cases hy
       |map a=>cases a <;> cases hy
       |chan a=>cases a <;> cases hy
       |_=>cases hy
    .cases h
   .cases h
  .rename_i fs hu;rw [hu] at hy;have hy:(if cs.length=P.cellsOf t then (fs.toList.mapM λ f=>aba enc P w base spare held zt f.type ((cs.drop f.offset).take (P.cellsOf f.type))).map λ xs=>(.agg (xs.map (·.1)),xs.flatMap (·.2)) else none)=some y:=hy;split at hy
   .rename_i hl;obtain ⟨h1,h2⟩:=bZ h;cases hm:fs.toList.mapM λ f=>aba enc P w base spare held zt f.type ((cs.drop f.offset).take (P.cellsOf f.type)) with
    |none=>rw [hm] at hy; cases hy
    |some ys=>
     cases ht:zq adh (λ f=>P.cellsOf f.type) 0 fs.toList with
     |none=>rw [ht] at h1; cases h1
     |some m=>
      rw [ht] at h1;have h1:=aaK (show abk m (P.cellsOf t)=true from h1);obtain ⟨_,qK,q1,q2,q3⟩:=EG (R:=xJ w) (w:=w) (off:=adh) (len:=λ f=>P.cellsOf f.type) (cs:=cs) (λ x ps y hx hy'=>zu N6 n hx hy') ht h2 hm;rw [h1,<- hl] at q1 q3;simp only [acJ,adj,List.take_length] at q1 q3;exact ⟨qK,q1,q2,q3⟩
   .cases hy
  .rename_i m e hu;rw [hu] at hy;have hy:(if cs.length=P.cellsOf t then ((ab6 m).mapM λ i=>aba enc P w base spare held zt e ((cs.drop (i*P.cellsOf e)).take (P.cellsOf e))).map λ xs=>(.agg (xs.map (·.1)),xs.flatMap (·.2)) else none)=some y:=hy;split at hy
   .rename_i hl;obtain ⟨h1,h2⟩:=bZ h;cases hm:(ab6 m).mapM λ i=>aba enc P w base spare held zt e ((cs.drop (i*P.cellsOf e)).take (P.cellsOf e)) with
    |none=>rw [hm] at hy; cases hy
    |some ys=>
     cases ht:zq (λ i=>i*P.cellsOf e) (λ _=>P.cellsOf e) 0 (ab6 m) with
     |none=>rw [ht] at h1; cases h1
     |some k=>
      rw [ht] at h1;have h1:=aaK (show abk k (P.cellsOf t)=true from h1);obtain ⟨_,qK,q1,q2,q3⟩:=EG (R:=xJ w) (w:=w) (off:=λ i=>i*P.cellsOf e) (len:=λ _=>P.cellsOf e) (cs:=cs) (λ x ps y hx hy'=>zu N6 n hx hy') ht h2 hm;rw [h1,<- hl] at q1 q3;simp only [acJ,adj,List.take_length] at q1 q3;exact ⟨qK,q1,q2,q3⟩
   .cases hy
  .cases h
def aeY (P:Program) (n:Nat) (t:TypeId):Option aF:=match P.underlying t with
 |some u=>match RQ P n t with
  |some ps=>zr (Go.Am.nX u) ps
  |none=>none
 |none=>none
def YM (N6:∀ b,spare b=true) {n:Nat} {p:aF} (hp:aeY P n t=some p) {r:Reach} {base':Nat} (ht:DataW.Trod enc P w base spare held t v d pl) (gl:ab9 P w r base' t v) :
  ∃ x:p.T,Rel (xJ w) w (p.enc x) v/\p.wf x:=by
 obtain ⟨zt,ht⟩:=ht;have fin:∀ {a:AV},p.fits a=true->p.wf (p.bW a)->Rel (xJ w) w a v->∃ x:p.T,Rel (xJ w) w (p.enc x) v/\p.wf x:=λ {a} h1 h2 h3=>⟨p.bW a,(p.fF h1).kj _ _ _ h3,h2⟩
 unfold aeY at hp;split at hp
 .rename_i u hu;split at hp
  .rename_i ps h1;obtain ⟨qK,q1,q2,q3⟩:=zu N6 n h1 ht;obtain ⟨x,hx,f1,f2⟩:=K2 hp q2;cases HT:Go.Am.nX u with
   |true=>
    rw [HT] at hx;simp only [if_true] at hx;subst hx;have:∃ cs,v=.agg cs:=by
     unfold ab9 at gl;rw [hu] at gl;cases u <;> first | (cases HT; done) | (obtain ⟨cs,h,_⟩:=gl; exact ⟨cs,h⟩)
    obtain ⟨⟨cs⟩,rfl⟩:=this;exact fin f1 f2 (.agg q1 q3)
   |false=>
    rw [HT] at hx;simp only [Bool.false_eq_true,if_false] at hx;subst hx;have hv:v.cells.toList=[v]:=by
     cases v with
     |agg cs=>
      exfalso;unfold ab9 at gl;rw [hu] at gl;cases u <;> first | (cases HT; done) | (simp [Cell.okWide,Cell.ok,hu] at gl)
     |_=>rfl
    rw [hv] at q1;cases q1 with
    |cons q1 _=>exact fin f1 f2 q1
  .cases hp
 .cases hp
def K4 (P:Program) (n:Nat):List TypeId->Option (List aF)
 |[]=>some []
 |t::l=>match aeY P n t,K4 P n l with
  |some p,some r=>some (p::r)
  |_,_=>none
def K5 (N6:∀ b,spare b=true) {n:Nat} {r:Reach} {base':Nat}:∀ {ts:List TypeId} {ps:List aF} {vs:List Value} {ds:List (DataW H)} {pl:List MemPlace},K4 P n ts=some ps->acf enc P w base spare held ts vs ds pl ->
  (∀ (j:Nat) t v,ts[j]?=some t->vs[j]?=some v->ab9 P w r base' t v)->∃ x:(pH ps).T,bj (xJ w) w ((pH ps).enc x) vs/\(pH ps).wf x
 |[],ps,vs,ds,pl,hp,ht,_=>by
  simp only [K4] at hp;cases hp;cases vs with
  |nil=>exact ⟨(),.nil,trivial⟩
  |cons _ _=>cases ds <;> exact ht.elim
 |t::ts,ps,vs,ds,pl,hp,ht,gl=>by
  unfold K4 at hp;split at hp
  .rename_i p r h1 h2;cases hp;cases vs with
   |nil=>cases ds <;> exact ht.elim
   |cons v vs=>
    cases ds with
    |nil=>exact ht.elim
    |cons d ds=>
     obtain ⟨p1,p2,k1,k2,_⟩:=ht;obtain ⟨x,q1,q2⟩:=YM N6 h1 k1 (gl 0 t v rfl rfl);obtain ⟨y,q3,q4⟩:=K5 N6 h2 k2 (λ j t v hj hv=>gl (j+1) t v (by simpa using hj) (by simpa using hv));cases r with
     |nil=>
      cases q3;exact ⟨x,.one q1,q2⟩
     |cons p' r=>exact ⟨(x,y),.cons q1 q3,q2,q4⟩
  .cases hp
end read
end Go.Am
namespace Go.Am
open Go Go.RowKit Go.WideShapes Go.ChangeShapes
variable {H:Type}{f:FuncId}{s:ChangeSpec}{apart fresh handsOn again:Bool}{W W':World}{E:Env}{fn:Func}{args:Array Value}{ps:List aF}{ds gs:List (DataW H)}{base n tb:Nat}{before pa pv:List MemPlace}{v:Value}
section
variable {enc:TypeId×Value->H} {P:Program}
def N7 {f:Func} 
  (hW:DataW.Whole enc P f.params.toList s.vars apart W args.toList ds gs before)
  (Np:∀ (b:Nat) (sp:Nat->Bool) (hd:Bool),acf enc P W' b sp hd f.resultTypes.toList (v.resultList f.resultTypes.size) (s.fn H (ds++gs)).results [])
  (GK:∀ sp:Nat->Bool,(∀ p∈before,sp p.block=true)->acf enc P W' 0 sp true f.params.toList args.toList (s.fn H (ds++gs)).args pa)
  (K6:∀ sp:Nat->Bool,(∀ p∈before,sp p.block=true)->DataW.TrodVars enc P W' sp s.vars (s.fn H (ds++gs)).vars pv)
  (Td:before=pa++pv) (hb:Below W.heap.size W W')
  (gl:∀ (j:Nat) (t:TypeId) (r:Value),f.resultTypes[j]?=some t->(v.resultList f.resultTypes.size)[j]?=some r->ab9 P W' .any 0 t r) :
  s.post enc P f apart fresh handsOn again W args v W':=by
 have du:∀ p∈before,p.block < W.heap.size:=λ p hp=>hW.lt p hp
 have hold:∀ p∈before,(λ b=>decide (b < W.heap.size)) p.block=true:=λ p hp=>by simpa using du p hp
 refine ⟨ds,gs,before,[],pa,pv,hW,Np _ _ _,GK _ hold,K6 _ hold,World.keptBut_mono (λ p hp=>⟨hp,?_⟩) (hb.frame (·∈before)),λ _=>?_⟩
 .rw [Td,List.mem_append] at hp;exact Or.inr hp
 .obtain ⟨_,_,_,_,_,hz,hn⟩:=hW;refine ⟨gl,_,_,([]++pa)++pv,⟨[]++pa,pv,trodAll_append (GK _ (λ _ _=>rfl)) (Np _ _ _),K6 _ (λ _ _=>rfl),rfl,?_,?_⟩,?_⟩
  .intro b off hp;have JA:MemPlace.cell b off∈before:=by rw [Td]; simpa using hp
   rw [hb.frozen (du _ JA)];exact hz b off JA
  .intro ha;have:=hn ha;rw [Td] at this;simpa using this
  .intro p hp _;rw [Td];simpa using hp
def wX (hl:laidOutB P=true) {W W':World} (hb:Below W.heap.size W W') {sp:Nat->Bool}:∀ {ts:List TypeId} {vs:List Value} {ds:List (DataW H)} {pl:List MemPlace},
  (∀ t∈ts,P.readableRec t=true/\t < P.types.size)->acf enc P W 0 (λ _=>true) true ts vs ds pl->(∀ p∈pl,p.block < W.heap.size)->(∀ p∈pl,sp p.block=true) ->
  acf enc P W' 0 sp true ts vs ds pl
 |[],[],[],_,_,h,_,_=>h
 |t::ts,v::vs,d::ds,pl,hr,h,du,N6=>by
  obtain ⟨p,q,h1,h2,rfl⟩:=h;refine ⟨p,q,?_,wX hl hb (λ t ht=>hr t (by simp [ht])) h2 (λ x hx=>du x (by simp [hx])) (λ x hx=>N6 x (by simp [hx])),rfl⟩;exact WideElems.Trod_stays hl (hr t (by simp)).1 (hr t (by simp)).2 h1 (λ x hx=>hb.same (du x (by simp [hx]))) (λ x hx=>N6 x (by simp [hx]))
 |[],[],_::_,_,_,h,_,_=>h.elim
 |[],_::_,_,_,_,h,_,_=>h.elim
 |_::_,[],_,_,_,h,_,_=>h.elim
 |_::_,_::_,[],_,_,h,_,_=>h.elim
def RR 
  (aoQ:∀ x,(pH ps).wf x->cw E f ((pH ps).enc x) (λ r=>r=.bool true)) (aki:K4 E.P n fn.params.toList=some ps)
  (YN:∀ (j:Nat) t v,fn.params[j]?=some t->args[j]?=some v->ab9 E.P W .any base t v)
  (hW:DataW.Whole enc E.P fn.params.toList s.vars apart W args.toList ds gs before) (akj:∀ g cs,E.fU g=some cs->jG (xJ W) W g 0 cs)
  (K6:s.vars=[]) (N6:∀ ds:List (DataW H),ds.length=fn.params.toList.length->s.fn H ds={ results:=[.lit (.bool true)],args:=ds })
  (Np:fn.resultTypes=#[tb]) (hub:E.P.underlying tb=some .bool) (hl:laidOutB E.P=true) (hr:∀ t∈fn.params.toList,E.P.readableRec t=true/\t < E.P.types.size) (FX:E.lo=0:=by rfl) (hgx:∀ g cs,E.fU g=some cs->E.gx g=true->g < W.heap.size/\W.cell? ⟨g,cs.length,none⟩=none:=by intro _ _ _ h; exact Bool.noConfusion (show false=true from h)) :
  Calls E.P f args W λ e W'=>∃ v,e=.returned v/\s.post enc E.P fn apart fresh handsOn again W args v W':=by
 have hW0:=hW;obtain ⟨p,q,hA,hV,rfl,hfz,hnd⟩:=hW;obtain ⟨rfl,rfl⟩:gs=[]/\q=[]:=by
  rw [K6] at hV;cases gs with
  |nil=>exact ⟨rfl,hV⟩
  |cons g r=>exact absurd hV (by intro h; cases h)
 obtain ⟨x,hx,hwf⟩:=K5 (λ _=>rfl) (n:=n) aki hA (r:=.any) (base':=base) (λ j t v hj hv=>YN j t v (by simpa using hj) (by simpa using hv));have hlen:ds.length=fn.params.toList.length:=by
  clear YN hfz hnd hW0 hx hwf N6 aki hr;revert hA;generalize fn.params.toList=ts;generalize args.toList=vs;generalize p=pl;clear p;intro hA
  induction ts generalizing vs ds pl with
  |nil=>cases vs <;> cases ds <;> first | rfl | exact hA.elim
  |cons t ts ih=>
   cases vs with
   |nil=>cases ds <;> exact hA.elim
   |cons v vs=>
    cases ds with
    |nil=>exact hA.elim
    |cons d ds=>
     obtain ⟨p,q,_,h2,_⟩:=hA;simp [ih vs q h2]
 have hG:ij E (xJ W) W []:=⟨rfl,λ id go ro h=>by simp [nth] at h,λ i j ri rj b h=>by simp [xJ,nth] at h,λ b o h=>h,λ g cs hg=>⟨akj g cs hg,λ hx=>hgx g cs hg hx⟩,by rw [FX]; exact abN _⟩;have hc:=(aoQ x hwf []);refine (callsIn_wide.1 (hc.2 (xJ W) W args.toList hG hx)).mono λ e W' he=>?_
 cases e with
 |panicked c=>exact he.elim
 |outgrown=>exact he.elim
 |returned c=>
  obtain ⟨r,G',R',⟨_,rfl⟩,iR,_,st⟩:=he;cases iR;have hb:Below W.heap.size W W':=⟨st.os,st.tape,st.output,st.size,λ k hk=>st.keep k hk λ ho=>by
   obtain ⟨id,ro,h1,_⟩:=jo ho;simp [xJ,nth] at h1⟩
  have du:∀ y∈p,y.block < W.heap.size:=λ y hy=>by simpa using hW0.lt y (by simpa using hy)
  have e1:s.fn H (ds++[])={ results:=[.lit (.bool true)],args:=ds }:=by rw [List.append_nil]; exact N6 ds hlen
  refine ⟨_,rfl,N7 (pa:=p) (pv:=[]) hW0 ?_ ?_ ?_ rfl hb ?_⟩
  .intro b sp hd;rw [e1,Np];exact trodAll_mk1 (shut_bool hub true)
  .intro sp aoS;rw [e1];exact wX hl hb hr hA du (λ y hy=>aoS y (by simpa using hy))
  .intro sp _;rw [e1,K6];rfl
  .intro j t r hj nu;rw [Np] at hj nu;cases j with
   |succ j=>simp at hj
   |zero=>
    simp at hj;subst hj;have:r=.bool true:=by simpa [Value.resultList] using nu.symm
    subst this;simp [ab9,Cell.okWide,Cell.ok,hub]
end
end Go.Am
namespace Go.Am
open Go
variable {V X α:Type}{p:aF}
section
variable {P:Program} {W:World}
end
def cA (hp:p.plain=true) (l:List p.T):allFit p.fits (aaN p.enc l)=true:=by
 induction l with
 |nil=>rfl
 |cons x l ih=>simp [allFit,ih,(p.bt x hp).1]
def eO (hp:p.plain=true) (l:List p.T):aaN p.bW (aaN p.enc l)=l:=by
 induction l with
 |nil=>rfl
 |cons x l ih=>simp [ih,(p.bt x hp).2]
def U6 (g:α->AV) (xs:List α) (k:Nat) (h:k < xs.length):an (xs.map g) k=g xs[k]:=by
 unfold an;rw [bk,acd,aaL h];rfl
theorem N8 (rd:V->Option (V⊕X)) (n:Nat) (v:V):ao rd (n+1) v=(rd v).bind λ o=>abC (λ v'=>ao rd n v') (λ x=>some x) o:=rfl
def gk {V X:Type} {rd:V->Option (V⊕X)} {Inv:V->Prop} {m:V->Nat} {Post:X->Prop}
  (h:∀ v,Inv v->(∃ v',rd v=some (.inl v')/\Inv v'/\m v' < m v)\/∃ x,rd v=some (.inr x)/\Post x) :
  ∀ (n:Nat) (v:V),Inv v->m v < n->∃ x,ao rd n v=some x/\Post x
 |0,_,_,hm=>absurd hm (Nat.not_lt_zero _)
 |n+1,v,hi,hm=>by
  rw [N8];rcases h v hi with ⟨v',h1,h2,h3⟩|⟨x,h1,h2⟩
  .rw [h1];exact gk h n v' h2 (by omega)
  .rw [h1];exact ⟨x,rfl,h2⟩
end Go.Am
namespace Go.Am
open Go Go.RowKit
variable {E:Env}{P:Program}{g:FuncId}{fn:Func}
section
variable {R:ak} {w w':World}
def Plain.of (h : P.funcs[g]? = some fn) (h1 : fn.body.isNone = false) (h2 : (fn.name == "runtime.NumGoroutine") = false) : Plain P g := ⟨fn, h, h1, h2⟩
end
def p2 (a b:aF):a6:=.cons a (.cons b .nil)
def p1 (a:aF):a6:=.cons a .nil
def EI:List UInt8×List UInt8->Option Int
 |(s,[c])=>some (s.count c:Nat)
 |_=>none
def N9:bJ:=⟨p2 .str .str,.int .i64,EI⟩
section
end
end Go.Am
namespace Go.Am
open Go
variable {V X α:Type}{rd:Int->Option (Int⊕(Int⊕Unit))}{l:List Int}{k n:Nat}{x:Int}
def Ap (h:-9223372036854775808<=x/\x<=9223372036854775807):IntKind.wrap .i64 x=x:=IntWalk.i64_in x (by omega)
def dC (N:Nat):Prop:=18446744073709551616<=N
theorem tu (rd:V->Option (V⊕X)) (n:Nat) (v:V):ao rd (n+1) v=(rd v).bind λ o=>abC (λ v'=>ao rd n v') (λ x=>some x) o:=rfl
def fK (g:α->AV) (xs:List α) (k:Nat) (h:k < xs.length):an (xs.map g) k=g xs[k]:=by
 unfold an;rw [bk,acd,aaL h];rfl
def low (a b:Int):Int×Int:=(a / (Int.gcd a b:Int),b / (Int.gcd a b:Int))
def foldI {S α Y:Type} (st:S->α->S⊕Y):S->List α->S⊕Y
 |s,[]=>.inl s
 |s,a::l=>abC (λ s'=>foldI st s' l) (λ y=>.inr y) (st s a)
def kT {V X S α Y:Type} {rd:V->Option (V⊕X)} (l:List α) (E:S->Nat->V) (st:S->α->S⊕Y) (fin:S->X) (ex:Y->X) (P:S->Nat->Prop)
  (h:∀ s k (hk:k < l.length),P s k->rd (E s k)=some (Sum.map (λ s'=>E s' (k+1)) ex (st s l[k]))/\∀ s',st s l[k]=.inl s'->P s' (k+1))
  (h0:∀ s,P s l.length->rd (E s l.length)=some (.inr (fin s))) :
  ∀ n s k,k<=l.length->l.length < n+k->P s k->ao rd n (E s k)=some (abC fin ex (foldI st s (l.drop k)))
 |0,s,k,hk,hn,_=>by omega
 |n+1,s,k,hk,hn,hP=>by
  rw [tu];by_cases du:k < l.length
  .obtain ⟨h1,h2⟩:=h s k du hP;rw [h1,acK du];simp only [acL,foldI];cases hs:st s l[k] with
   |inl s'=>
    simp only [Sum.map_inl,acq];exact kT l E st fin ex P h h0 n s' (k+1) (by omega) (by omega) (h2 s' hs)
   |inr y=>simp only [Sum.map_inr,Sum.elim_inr]
  .have:k=l.length:=by omega
   subst this;rw [h0 s hP,acP (aaR _)];rfl
def dw {V X S α:Type} {rd:V->Option (V⊕X)} (l:List α) (E:S->Nat->V) (f:S->α->S) (fin:S->X) (P:S->Nat->Prop)
  (h:∀ s k (hk:k < l.length),P s k->rd (E s k)=some (.inl (E (f s l[k]) (k+1)))/\P (f s l[k]) (k+1))
  (h0:∀ s,P s l.length->rd (E s l.length)=some (.inr (fin s))) :
  ∀ n s k,k<=l.length->l.length < n+k->P s k->ao rd n (E s k)=some (fin ((l.drop k).foldl f s))
 |0,s,k,hk,hn,_=>by omega
 |n+1,s,k,hk,hn,hP=>by
  rw [tu];by_cases du:k < l.length
  .obtain ⟨h1,h2⟩:=h s k du hP;rw [h1,acK du];simp only [acL,acq,List.foldl_cons];exact dw l E f fin P h h0 n _ (k+1) (by omega) (by omega) h2
  .have:k=l.length:=by omega
   subst this;rw [h0 s hP,acP (aaR _)];rfl
def aL {V X:Type} {rd:V->Option (V⊕X)} (m:Nat) (E:Nat->V) (x:X) (h:∀ k,k < m->rd (E k)=some (.inl (E (k+1)))) (h0:rd (E m)=some (.inr x)) :
  ∀ n k,k<=m->m < n+k->ao rd n (E k)=some x
 |0,k,hk,hn=>by omega
 |n+1,k,hk,hn=>by
  rw [tu];by_cases du:k < m
  .rw [h k du];simp only [acL,acq];exact aL m E x h h0 n (k+1) (by omega) (by omega)
  .have:k=m:=by omega
   subst this;rw [h0];rfl
def af (h:k < n):decide (0<=(k:Int)/\(k:Int) < (n:Int))=true:=by simp; omega
def ai (h:k < n):decide ((k:Int) < (n:Int))=true:=by simpa using h
def ay (n:Nat):decide ((n:Int) < (n:Int))=false:=by simp
def aN (h:k < 9223372036854775807):IntKind.wrap .i64 ((k:Int)+1)=((k+1:Nat):Int):=by rw [Ap (by omega)]; simp
def PL (n lo hi:Int):Int:=if n < lo\/n > hi then 3 else 0
def bP:List Int->Int
 |[]=>0
 |x::l=>if x=0 then bP l else x
def EJ (a b:List Int):bP (a++b)=if bP a=0 then bP b else bP a:=by
 induction a with
 |nil=>simp [bP]
 |cons x a ih=>
  simp only [List.cons_append,bP];by_cases h:x=0
  .simp [h,ih]
  .simp [h]
def iX :bP l=0↔∀ x∈l,x=0:=by
 induction l with
 |nil=>simp [bP]
 |cons x l ih=>
  simp only [bP,aa5,forall_eq_or_imp];by_cases h:x=0
  .simp [h,ih]
  .simp [h]
def EL (l:List Int)
  (h:∀ k (hk:k < l.length),rd (k:Int)=some (if l[k]=0 then .inl ((k+1:Nat):Int) else .inr (.inl l[k]))) (h0:rd (l.length:Int)=some (.inr (.inr ()))) (n:Nat) (hn:l.length < n) :
  ∃ o,ao rd n 0=some o/\abC (λ x=>x) (λ _=>0) o=bP l:=by
 have key:=kT (rd:=rd) (S:=Unit) (Y:=Int) l (λ _ k=>(k:Int)) (λ _ x=>if x=0 then .inl () else .inr x) (λ _=>.inr ()) (λ x=>.inl x) (λ _ _=>True)
  (λ s k hk _=>⟨by rw [h k hk]; by_cases e:l[k]=0 <;> simp [e],λ _ _=>trivial⟩) (λ _ _=>h0) n () 0 (abN _) (by omega) trivial
 refine ⟨_,key,?_⟩;rw [acJ];clear key h h0 hn
 induction l with
 |nil=>rfl
 |cons x l ih=>
  simp only [foldI,bP];by_cases e:x=0
  .simp only [e,if_true,acq]; exact ih
  .simp [e]
def iL (l:List Int)
  (h:∀ k (hk:k < l.length),rd (k:Int)=some (if l[k]=0 then .inl ((k+1:Nat):Int) else .inr (.inl l[k]))) (h0:rd (l.length:Int)=some (.inr (.inr ()))) (n:Nat) (hn:l.length < n) :
  ao rd n 0=some (if bP l=0 then .inr () else .inl (bP l)):=by
 have key:=kT (rd:=rd) (S:=Unit) (Y:=Int) l (λ _ k=>(k:Int)) (λ _ x=>if x=0 then .inl () else .inr x) (λ _=>.inr ()) (λ x=>.inl x) (λ _ _=>True)
  (λ s k hk _=>⟨by rw [h k hk]; by_cases e:l[k]=0 <;> simp [e],λ _ _=>trivial⟩) (λ _ _=>h0) n () 0 (abN _) (by omega) trivial
 rw [acJ] at key;refine key.trans (congrArg some ?_);clear key h h0 hn
 induction l with
 |nil=>rfl
 |cons x l ih=>
  simp only [foldI,bP];by_cases e:x=0
  .simp only [e,if_true,acq]; exact ih
  .simp [e]
def YO (s:List UInt8) (k:Nat) (hk:k < s.length):((s[k].toNat < 128)->iQ s k=(s[k].toNat,1))/\(128<=s[k].toNat->128<=(iQ s k).1):=by
 have e1:s.getD k 0=s[k]:=by simp [hk]
 constructor
 .intro h;have:acV s[k].toNat 128=true:=aca h;unfold iQ;rw [e1,this];rfl
 .intro h;have:acV s[k].toNat 128=false:=by
   cases hb:acV s[k].toNat 128 with
   |false=>rfl
   |true=>have:=acW hb; omega
  unfold iQ;rw [e1,this];simp only [cond_false];have e2:((⟨⟨s⟩⟩:ByteArray).get! (k+0)).toNat=s[k].toNat:=by
   simp [ByteArray.get!,hk]
  unfold Utf8.decode;simp only [e2,if_neg (by omega:¬ s[k].toNat < 128)];have hr:(128:Nat)<=Utf8.runeError:=by decide
  repeat' split
  all_goals first | exact hr | skip
  all_goals simp_all
  all_goals omega
def aoT (h:x≠0):(x == 0)=false:=by simpa using h
def RS (h:x≠0):(x != 0)=true:=by simpa using h
end Go.Am
namespace Go.Am
open Go
section
variable {κ ν:Type} [DecidableEq κ]
def getM (k:κ):List (κ×ν)->Option ν
 |[]=>none
 |(k',v)::m=>if k=k' then some v else getM k m
def dG (k:κ) (v:ν):List (κ×ν)->List (κ×ν)
 |[]=>[(k,v)]
 |(k',v')::m=>if k=k' then (k,v)::m else (k',v')::dG k v m
def eF (k k':κ) (v:ν):∀ m:List (κ×ν),getM k' (dG k v m)=if k'=k then some v else getM k' m
 |[]=>rfl
 |(k1,v1)::m=>by
  unfold dG;by_cases h:k=k1
  .subst h;rw [if_pos rfl];by_cases h2:k'=k
   .simp [getM,h2]
   .simp [getM,h2]
  .rw [if_neg h];by_cases h2:k'=k1
   .subst h2;have h3:¬ k'=k:=λ e=>h e.symm
    simp [getM,h3]
   .simp only [getM,if_neg h2];exact eF k k' v m
def getM_none {k:κ}:∀ {m:List (κ×ν)},getM k m=none↔k∉m.map acg
 |[]=>by simp [getM]
 |(k1,v1)::m=>by
  simp only [getM,aag,aa5,not_or];by_cases h:k=k1
  .simp [h]
  .simp only [if_neg h,h,not_false_eq_true,true_and]; exact getM_none
def EU {k:κ} {v:ν}:∀ {m:List (κ×ν)},getM k m=none->dG k v m=m++[(k,v)]
 |[],_=>rfl
 |(k1,v1)::m,h=>by
  unfold getM at h;split at h
  .cases h
  .rename_i de;unfold dG;rw [if_neg de,EU h];rfl
def vR {k:κ} {v:ν}:∀ {m:List (κ×ν)},(dG k v m).map acg=if k∈m.map acg then m.map acg else m.map acg++[k]
 |[]=>by simp [dG]
 |(k1,v1)::m=>by
  unfold dG;by_cases h:k=k1
  .simp [h]
  .rw [if_neg h,aag,vR (m:=m)];by_cases h2:k∈m.map acg
   .have:k∈((k1,v1)::m).map acg:=by simp only [aag,aa5]; exact .inr h2
    rw [if_pos h2,if_pos this];rfl
   .have:¬ k∈((k1,v1)::m).map acg:=by
     simp only [aag,aa5,not_or]; exact ⟨h,h2⟩
    rw [if_neg h2,if_neg this];rfl
def RX (k:κ) (l:List κ):getM k (l.map λ x=>(x,true))=if k∈l then some true else none:=by
 induction l with
 |nil=>rfl
 |cons a l ih=>
  simp only [aag,getM,ih,aa5];by_cases h:k=a
  .simp [h]
  .simp [h]
structure kq (ek:EK) (nk:κ->AV) (nv:ν->AV) (nM:κ×ν->AV):Prop where
 key:∀ a b,JL ek (nk a) (nk b)=some (decide (a=b))
 pair:∀ x,nM x=.agg [nk x.1,nv x.2]
 exact:∀ x,(nM x).exact=true
variable {ek:EK} {nk:κ->AV} {nv:ν->AV} {nM:κ×ν->AV} (h:kq ek nk nv nM)
include h
theorem kq.ent:∀ m:List (κ×ν),ax (aaN nM m)=m.map λ x=>(nk x.1,nv x.2)
 |[]=>rfl
 |x::m=>by
  rw [aag,h.pair,ax,kq.ent m];rfl
theorem kq.keys (k:κ):∀ m:List (κ×ν),bL ek (nk k) (ax (aaN nM m))=true
 |[]=>rfl
 |x::m=>by
  have:=kq.keys k m;rw [aag,h.pair,ax];show ((JL ek (nk k) (nk x.1)).isSome&&bL ek (nk k) (ax (aaN nM m)))=true;rw [this,h.key];rfl
theorem kq.get (k:κ):∀ m:List (κ×ν),gO ek (nk k) (ax (aaN nM m))=(getM k m).map nv
 |[]=>rfl
 |x::m=>by
  have ih:=kq.get k m;rw [aag,h.pair,ax];show (bif AD ek (nk k) (nk x.1) then some (nv x.2) else gO ek (nk k) (ax (aaN nM m)))=(if k=x.1 then some x.2 else getM k m).map nv;unfold AD;rw [h.key,ih];by_cases e:k=x.1
  .simp [e]
  .simp [e]
theorem kq.getD (k:κ) (z:ν) (m:List (κ×ν)):bu ek (nk k) (nv z) (ax (aaN nM m))=nv ((getM k m).getD z):=by
 unfold bu;rw [h.get];cases getM k m <;> rfl
theorem kq.put (k:κ) (v:ν):∀ m:List (κ×ν),eL ek (nk k) (nv v) (ax (aaN nM m))=ax (aaN nM (dG k v m))
 |[]=>by
  show [(nk k,nv v)]=ax [nM (k,v)];rw [h.pair];rfl
 |x::m=>by
  have ih:=kq.put k v m;rw [aag,h.pair,ax];show (bif AD ek (nk k) (nk x.1) then (nk k,nv v)::ax (aaN nM m) else (nk x.1,nv x.2)::eL ek (nk k) (nv v) (ax (aaN nM m)))=ax (aaN nM (if k=x.1 then (k,v)::m else (x.1,x.2)::dG k v m));unfold AD;rw [h.key,ih];by_cases e:k=x.1
  .simp only [e,decide_true,cond_true,if_true,aag];rw [h.pair (x.1,v),ax];rfl
  .simp only [e,decide_false,cond_false,if_false,aag];rw [h.pair (x.1,x.2),ax];rfl
theorem kq.cells:∀ m:List (κ×ν),ab (ax (aaN nM m))=aaN nM m
 |[]=>rfl
 |x::m=>by
  have ih:=kq.cells m;rw [aag,h.pair,ax];show AV.agg [nk x.1,nv x.2]::ab (ax (aaN nM m))=_;rw [ih]
theorem kq.aD (m:List (κ×ν)):Go.Am.aD (ax (aaN nM m))=true:=by
 unfold Go.Am.aD;rw [h.cells]
 induction m with
 |nil=>rfl
 |cons x m ih=>rw [aag,e7,ih,h.exact]; rfl
end
def zx (k:IntKind) (a b:Int):JL .int (.int k a) (.int k b)=some (decide (a=b)):=by
 unfold JL;simp only [qo,if_true];by_cases h:a=b
 .subst h; simp [EK.wide]
 .have:(a == b)=false:=by simpa using h
  rw [this]; simp [h]
def ZL (a b:Int×Int):JL (.st (.cons 0 1 false .int (.cons 1 1 false .int .nil))) (.agg [.int .i64 a.1,.int .i64 a.2]) (.agg [.int .i64 b.1,.int .i64 b.2])=some (decide (a=b)):=by
 obtain ⟨a1,a2⟩:=a;obtain ⟨b1,b2⟩:=b;have e:qo (.st (.cons 0 1 false .int (.cons 1 1 false .int .nil))) (.agg [.int .i64 a1,.int .i64 a2]) (.agg [.int .i64 b1,.int .i64 b2])=some ((a1 == b1)&&((a2 == b2)&&true)):=rfl;unfold JL;rw [e];by_cases h1:a1=b1 <;> by_cases h2:a2=b2
 .subst h1; subst h2;simp [EK.wide,sL,uu,yq]
 all_goals simp [h1,h2]
end Go.Am
namespace Go.Am
open Go
def xN (ek:EK) (k v x:AV):∀ es:List (AV×AV),lP (eL ek k v es) (jd ek k es) x=eL ek k x es
 |[]=>rfl
 |(k',v')::l=>by
  unfold eL jd;cases h:AD ek k k' with
  |true=>rfl
  |false=>
   simp only [cond_false,lP];rw [xN ek k v x l]
def Vv (ek:EK) (k v:AV):∀ es:List (AV×AV),jd ek k es < (eL ek k v es).length
 |[]=>Nat.zero_lt_one
 |(k',v')::l=>by
  unfold eL jd;cases h:AD ek k k' with
  |true=>exact Nat.zero_lt_succ _
  |false=>
   simp only [cond_false,List.length_cons];have:=Vv ek k v l;omega
theorem pP {V X:Type} (rd:(V->Option X)->V->Option X) (n:Nat) (v:V):gw rd (n+1) v=rd (gw rd n) v:=rfl
def hX (L:List Nat):List Int:=L.map λ n:Nat=>(n:Int)
def Lk {α:Type} (f:α->AV×AV) (m:List α) {i:Nat} (h:i < m.length):sM (m.map f) i=f m[i]:=by
 unfold sM;rw [bk,acd,aaL h];rfl
end Go.Am
namespace Go.Am
open Go Go.RowKit Go.Proofs Go.Shelf Go.Lib
def Qh (sz wI:Nat) (el:TypeId):List AV->List GO->Option (Bool×AV×List GO)
 |[.list .nil _ [],.int .i64 n],G=>some (decide (0<=n/\n*(wI:Int)<=140737488355328/\n<=4611686018427387904),.eK G.length 0 0 sz 0,G++[.bO [] sz el])
 |_,_=>none
section
variable {E:Env} {ρ:Ren}
def Lr (L:Lays8.n4 E.P ρ) (hp:Plain E.P (ρ.f 4)) (i0:TypeInfo) (z:Value) (hi0:E.P.info? (ρ.t 25)=some i0) (hz0:i0.zero=some z) (FW:0 < i0.size) (hzs:z.cells.size=i0.size) :
  ∀ (args:List AV) (G:List GO) (r:AV) (G':List GO),Qh i0.size i0.bytes (ρ.t 25) args G=some (true,r,G')->eI E (ρ.f 4) args G (λ r' FM=>r'=r/\FM=G'):=by
 intro args G r G' h;unfold Qh at h;split at h
 .rename_i G1 sz0 n;injection h with h;injection h with h1 h;injection h with h2 h3;subst h2; subst h3;have h1:=of_decide_eq_true h1;obtain ⟨X8,Yn,avY⟩:=h1;refine ⟨hp,λ R w cs hg hl=>callsIn_wide.2 ?_⟩;cases hl with
  | @cons _ cv _ _ r1 hl=>
  cases hl with
  | @cons _ nv _ _ r2 hl=>
  cases hl;cases r2;have hcv:∃ c0,cv=.slice none 0 c0/\c0=0:=by
   cases r1 with
   |nq=>exact ⟨_,rfl,rfl⟩
   |list _ _ _ hk=>exact hk.elim
  obtain ⟨c0,rfl,rfl⟩:=hcv;obtain ⟨m,rfl⟩:∃ m:Nat,n=(m:Int):=⟨n.toNat,by omega⟩;have cV:bG E R w (λ _=>0) ⟨[],[],G,[],none,0⟩ (⟨#[],[]⟩:Act):=
   ⟨hg,⟨λ k cs h=>by simp [fm] at h,λ k k' cs iO h=>by simp [fm] at h⟩,λ i hi=>absurd rfl hi,rfl,trivial⟩
  by_cases hm:m=0
  .subst hm;refine (Any8.slices_Grow_room (P:=E.P) (ρ:=ρ) L none 0 0 0 w (aaR _) (by omega) (by omega) (by omega)).mono λ e w' ⟨e1,e2⟩=>?_
   have e2:=e2.symm;subst e1; subst e2;obtain ⟨k1,k2⟩:=cV.DD (i0.size+65536) (ρ.t 25);have hn:nth (il R).obj G.length=some .bK:=by rw [<- hg.len]; exact dL _ _
   have ev:ghV G.length (i0.size+65536)=.eK G.length 0 0 i0.size 0:=by
    unfold ghV;rw [aca (acO _ _),Nat.add_sub_cancel];rfl
   have eo:Nb (i0.size+65536) (ρ.t 25)=.bO [] i0.size (ρ.t 25):=by
    unfold Nb;rw [aca (acO _ _),Nat.add_sub_cancel];rfl
   have hv:Rel (il R) w (.eK G.length 0 0 i0.size 0) (.slice none 0 0):=by
    rw [<- ev]; exact Pp hn
   have hk1:=k1.g;have eG:((⟨[],[],G,[],none,0⟩:St).gj (Nb (i0.size+65536) (ρ.t 25))).G=G++[.bO [] i0.size (ρ.t 25)]:=by
    show G++[Nb (i0.size+65536) (ρ.t 25)]=_;rw [eo]
   rw [eG] at hk1;exact ⟨_,_,il R,⟨rfl,rfl⟩,hv,hk1,k2⟩
  .have agm:(0+m)*i0.bytes<=140737488355328:=by
    rw [acu];have:((m*i0.bytes:Nat):Int)<=140737488355328:=by rw [Int.natCast_mul]; exact Yn
    omega
   have key:=Any8.slices_Grow_grow (P:=E.P) (ρ:=ρ) L i0 z hi0 hz0 FW none 0 0 m [] w (aaR _) (by omega) agm (by omega) (by simp) (λ _=>rfl) (λ a h=>by cases h);refine key.mono λ e w' ⟨e1,e2⟩=>?_
   have FR:=grownCap_ge w (0+m) 0 (ρ.t 25);have hcm:=grownCap_le_maxLen w (0+m) 0 (ρ.t 25) (by unfold maxLen; omega);generalize grownCap w (0+m) 0 (ρ.t 25)=cap at *;subst e1; subst e2;obtain ⟨_,d1,d2⟩:=cV.drew;have iJ:(([]:List Value).toArray++aaS z.cells (0+m - 0)++aaS z.cells (cap - (0+m))).size=cap*i0.size:=by
    simp only [Array.size_append,List.size_toArray,size_zeroCells,hzs,List.length_nil,acu,adj,<- Nat.add_mul];congr 1;omega
   have r1:=d1.TZ (cur:=([]:List Value).toArray++aaS z.cells (0+m - 0)++aaS z.cells (cap - (0+m))) (vs:=[]) (es:=[]) (elem:=ρ.t 25) (sz:=i0.size) (cap:=cap) (abN _) hcm iJ (λ e he=>by cases he) .nil (λ v hv=>by cases hv) (by simp);have st:=d2.trans (fI d1 (.cells (([]:List Value).toArray++aaS z.cells (0+m - 0)++aaS z.cells (cap - (0+m))) (ρ.t 25)) (.tok 0 w.drew.heap.size cap 0) (by exact λ _ h=>h));have hv:Rel (R.add (.tok 0 w.heap.size cap 0)) (w.drew.alloc (.cells (([]:List Value).toArray++aaS z.cells (0+m - 0)++aaS z.cells (cap - (0+m))) (ρ.t 25))) (.eK G.length 0 0 i0.size 0) (.slice (some ⟨w.heap.size,0,none⟩) 0 cap):=
    Rel.eK (kJ cV _) ⟨aaR _,λ _=>⟨rfl,acu _,.inl (aci _).symm⟩⟩ (abN _)
   exact ⟨_,_,_,⟨rfl,rfl⟩,hv,r1.g,st⟩
 .cases h
end
end Go.Am
namespace Go.Am
open Go Go.RowKit Go.Proofs Go.Shelf Go.Lib
def I1 (el:TypeId):List AV->List GO->Option (Bool×AV×List GO)
 |[.list _ sz es],G=>some ((abk sz 1 || es.isEmpty)&&(allFit (aF.fits (.int .i64)) es&&decide (es.length*8<=140737488355328)),.eK G.length es.length 0 1 es.length,G++[.bO es 1 el])
 |_,_=>none
def ago {a b:IntKind} (h:kEq a b=true):b=a:=by cases a <;> cases b <;> first | rfl | cases h
def E2:∀ {es:List AV},allFit (aF.fits (.int .i64)) es=true->aH es=es/\es=es.map λ e=>.int .i64 e.Cc
 |[],_=>⟨rfl,rfl⟩
 |e::es,h=>by
  simp only [allFit,aad] at h;obtain ⟨h1,h2⟩:=h;obtain ⟨k1,k2⟩:=E2 h2;cases e <;> first | (simp [aF.fits] at h1; done) | skip
  rename_i k n;have hk:k=.i64:=ago h1;subst hk;exact ⟨by simp only [aH,AV.cells,k1,List.cons_append,List.nil_append],by rw [aag,<- k2]; rfl⟩
def Hp {R:ak} {w:World}:∀ {zs:List Int} {vs:List Value},bj R w (zs.map λ z=>AV.int .i64 z) vs->vs=zs.map (adl .i64)
 |[],_,h=>by cases h; rfl
 |z::zs,vs,h=>by
  cases h with
  | @cons _ c _ cs h1 h2=>
   cases h1;rw [Hp h2]; rfl
def Ls {R:ak} {w:World}:∀ zs:List Int,bj R w (zs.map λ z=>AV.int .i64 z) (zs.map (adl .i64))
 |[]=>.nil
 |z::zs=>.cons (.int .i64 z) (Ls zs)
section
variable {E:Env} {R:ak} {w w':World}
def Hq {G:List GO} (hg:ij E R w G) (hE:E.lo=0) (hb:Below w.heap.size w w') {g cap sz:Nat} {es:List AV} {el:TypeId} {cur:Array Value} {vs:List Value} (Tj:w.heap.size<=g) (hc:w'.heap[g]?=some (.cells cur el (0,0)))
  (hn:es.length<=cap) (hm:cap<=maxLen) (hs:cur.size=cap*sz) (ql:ig sz es) (hr:bj R w (aH es) vs) (h1:∀ v∈vs,v.oneCell'=true) (ht:cur.toList.take (es.length*sz)=vs) :
  ij E (R.add (.tok es.length g cap 0)) w' (G++[.bO es sz el])/\Step R w (λ _=>0) kg (R.add (.tok es.length g cap 0)) w' (λ _=>0) kg:=by
 have e:Ext R w (R.add (.tok es.length g cap 0)) w':=
  ⟨λ _ _ h=>h,λ b o hi=>dv (hb.block b (hg.wf b o hi)) o,λ _ r h=>⟨r,dg h,dy.refl r⟩,.old λ b nt=>hb.block b nt⟩
 have du:∀ {i r b},nth R.obj i=some r->r.has b->b < w.heap.size:=λ h1 h2=>hg.dS ⟨_,_,h1,h2⟩
 refine ⟨⟨by simp [ak.add,hg.len],λ i gg r q1 q2=>?_,λ i j ri rj b q1 q2 b1 b2=>?_,λ b o hi=>Nat.lt_of_lt_of_le (hg.wf b o hi) hb.size,λ g cs hq=>(hg.fU g cs hq).mono e,by rw [hE]; exact abN _⟩,?_⟩
 .rcases aq q2 with q2|⟨q3,rfl⟩
  .rcases aq q1 with q1|⟨q4,_⟩
   .exact (hg.obj i gg r q1 q2).mono e (λ b nt=>hb.block b (du q2 nt)) (λ _ _ _ hi=>hi)
   .have:=bX q2;rw [hg.len] at this;omega
  .rcases aq q1 with q1|⟨q4,rfl⟩
   .have:=bX q1;rw [q3,hg.len] at this;omega
   .exact ⟨rfl,rfl,ql,cur,vs,hc,hn,hm,hs,λ o hi=>by have:=hg.wf _ _ hi; omega,hr.mono e,h1,ht⟩
 .rcases aq q1 with g1|⟨g3,rfl⟩
  .rcases aq q2 with g2|⟨g4,rfl⟩
   .exact hg.inj i j ri rj b g1 g2 b1 b2
   .have:=du g1 b1;simp [RO.has] at b2;omega
  .rcases aq q2 with g2|⟨g4,rfl⟩
   .have:=du g2 b2;simp [RO.has] at b1;omega
   .omega
 .refine ⟨e,hb.os,hb.tape,hb.output,hb.size,λ b nt _=>hb.block b nt,λ b nt ho=>?_,λ _ _ hi _ _=>hi⟩;rcases ho with ⟨i,r,l1,l2⟩|⟨k,cs,hk,_⟩
  .rcases aq l1 with l1|⟨_,rfl⟩
   .exact .inl ⟨i,r,l1,l2⟩
   .simp [RO.has] at l2;omega
  .simp [kg,fm] at hk
variable {ρ:Ren}
def Se (L:Lays2.n15 E.P ρ) (hp:Plain E.P (ρ.f 15)) (hE:E.lo=0) :
  ∀ (args:List AV) (G:List GO) (r:AV) (G':List GO),I1 (ρ.t 3) args G=some (true,r,G')->eI E (ρ.f 15) args G (λ r' FM=>r'=r/\FM=G'):=by
 intro args G r G' h;unfold I1 at h;split at h
 .rename_i G1 k sz es;injection h with h;injection h with h1 h;injection h with h2 h3;subst h2; subst h3;simp only [aad,decide_eq_true_eq] at h1;obtain ⟨iJ,Dv,agp⟩:=h1;obtain ⟨ic1,ic2⟩:=E2 Dv;have apS:ig 1 es:=λ e he=>by
   rw [ic2] at he;obtain ⟨x,_,rfl⟩:=List.mem_map.1 he;exact ⟨rfl,rfl⟩
  refine ⟨hp,λ R w cs hg hl=>callsIn_wide.2 ?_⟩;cases hl with
  | @cons _ cv _ _ r1 hl=>
  cases hl
  have zF:es=[]->cv=.slice none 0 0->Calls E.P (ρ.f 15) ⟨[cv]⟩ w (yW E R w λ r' FM=>r'=.eK G.length es.length 0 1 es.length/\FM=G++[.bO es 1 (ρ.t 3)]):=λ he hc=>by
   subst he; subst hc;have cV:bG E R w (λ _=>0) ⟨[],[],G,[],none,0⟩ (⟨#[],[]⟩:Act):=
    ⟨hg,⟨λ k cs h=>by simp [fm] at h,λ k k' cs iO h=>by simp [fm] at h⟩,λ i hi=>absurd rfl hi,rfl,trivial⟩
   refine (Any.slices_Clone_int_nil L 0 0 w).mono λ e w' ⟨e1,e2⟩=>?_
   subst e1; subst e2;obtain ⟨k1,k2⟩:=cV.DD (1+65536) (ρ.t 3);have hn:nth (il R).obj G.length=some .bK:=by rw [<- hg.len]; exact dL _ _
   exact ⟨_,_,il R,⟨rfl,rfl⟩,Rel.pf hn trivial,k1.g,k2⟩
  have Hr:∀ {v':Value} {w':World} {zs:List Int},es=zs.map (λ z=>AV.int .i64 z)->w'.ownsRow w.heap.size (ρ.t 3) 1 v' es.length (zs.map (adl .i64))->v'≠.slice none 0 0->Below w.heap.size w w' ->
    yW E R w (λ r' FM=>r'=.eK G.length es.length 0 1 es.length/\FM=G++[.bO es 1 (ρ.t 3)]) (.returned v') w':=λ {v' w' zs} FK qS de XB=>by
   obtain ⟨_,qS⟩:=qS;rcases qS with ⟨rfl,_⟩|⟨g,cap,cur,rfl,Tj,hc,hn,hm,hs,ht⟩
   .exact absurd rfl de
   .have iR:bj R w (aH es) (zs.map (adl .i64)):=by
     rw [ic1,FK];exact Ls zs
    obtain ⟨r1,r2⟩:=Hq hg hE XB Tj hc hn hm hs apS iR (λ v hv=>by obtain ⟨x,_,rfl⟩:=List.mem_map.1 hv; rfl) ht;have En:nth (R.add (.tok es.length g cap 0)).obj G.length=some (.tok es.length g cap 0):=by rw [<- hg.len]; exact dL _ _
    refine ⟨_,_,_,⟨rfl,rfl⟩,Rel.eK En ⟨aaR _,λ _=>⟨rfl,acu _,.inl (aci _).symm⟩⟩ hn,r1,r2⟩
  cases r1 with
  |nq=>exact zF rfl rfl
  |kP=>exact zF rfl rfl
  |qq _ _=>exact zF rfl rfl
  |qQ _ _=>exact zF rfl rfl
  | @pd _ ad=>
   exact (Any.slices_Clone_int_zero L ad 0 w).mono λ e w' ⟨v',e1,e2,e3,e4⟩=>by subst e1; exact Hr (zs:=[]) rfl e2 e3 e4
  | @list _ _ _ b o len cap hr hlen lS hk=>
   subst hlen;by_cases de:es=[]
   .subst de;exact (Any.slices_Clone_int_zero L ⟨b,o,none⟩ cap w).mono λ e w' ⟨v',e1,e2,e3,e4⟩=>by subst e1; exact Hr (zs:=[]) rfl e2 e3 e4
   .have agq:sz=1:=by
     simp only [acM] at iJ;rcases iJ with q|q
     .exact aaK q
     .simp at q; exact absurd q de
    subst agq;obtain ⟨x0,xs,x1,x2,x3,x4⟩:=mB (esz:=1) (Rel.list hr rfl lS hk) (.inr rfl);rcases x4 with ⟨he,_⟩|⟨b',o',apT,ph,Yk,xk,tV,_⟩
    .exact absurd he de
    .cases ph;rw [ic1] at x1;have FK:es=(es.map AV.Cc).map λ z=>AV.int .i64 z:=by rw [List.map_map]; exact ic2
     rw [FK] at x1;have hxs:=Hp x1;have key:=Any.slices_Clone_int L b o es.length cap (es.map AV.Cc) w (by rw [acN]; exact aaR _) agp (λ j hj=>by
      have:=tV j (.int .i64 ((es.map AV.Cc).getD j 0)) (by rw [hxs,acd,aaL hj,List.getD_eq_getElem?_getD,aaL hj]; rfl);rw [eZ] at this;exact this)
     refine key.mono λ e w' ⟨v',e1,e2,e3,e4⟩=>?_
     subst e1;rw [List.take_of_length_le (by rw [acN]; exact aaR _)] at e2;exact Hr FK e2 e3 e4
 .cases h
end
end Go.Am
namespace Go.Am
open Go Go.RowKit Go.Proofs Go.Shelf Go.Lib
section
variable {E:Env} {ρ:Ren}
end
end Go.Am
namespace Go.Proofs
open Go.Shelf Go.RowKit Go.Lib
variable {P:Program} {ρ:Ren}
set_option maxHeartbeats 2000000 in
set_option maxRecDepth 100000 in
def Lt (L:SlLaysE0.n41 P ρ) (i0:TypeInfo) (z:Value) (size bytes:Nat) (hi:P.info? (ρ.t 23)=some i0) (hz0:i0.zero=some z) (Jz:i0.size=size) (Xy:i0.bytes=bytes) (hzs:z.cells.size=size) (iJ:0 < size)
  (z23:∀ w,(Go.sizeOf (ρ.t 23)).run P w=.ok size w) (a:Addr) (c:Nat) (w:World) :
  Calls P (ρ.f 41) #[.slice (some a) 0 c] w λ e w'=>∃ v',e=.returned v'/\w'.ownsRow w.heap.size (ρ.t 23) size v' 0 []/\v'≠.slice none 0 0/\Below w.heap.size w w':=by
 have mixed:=L.mixed; have t4:=L.t4; have a4:=L.a4; have z4:=L.z4; have v4:=L.v4; have t22:=L.t22; have a22:=L.a22; have z22:=L.z22; have v22:=L.v22;have q22:∀ (w:World) (a:Option Addr) (n c n' c':Nat),(binOp .eql (ρ.t 22) (.slice a n c) (.slice none n' c')).run P w=.ok (.bool a.isNone) w:=λ w a n c n' c'=>Lib.run_eql_slice_nil w _ _ a n c n' c' L.t22
 have u22:∀ w,Sem.run P (underlying (ρ.t 22)) w=.ok (TypeDesc.slice (ρ.t 23)) w:=run_underlying t22;obtain ⟨_,_,FG⟩:=L.f41
 go_enter FG,SlBodyN.n41_ntmps ρ
 go_wp2_with (at_builtin; refine wpList_append_own _ rfl _ _ (ρ.t 22) rfl w.heap.size (ρ.t 23) i0 z size bytes t22 hi hz0 Jz Xy hzs iJ _ _ _ rfl (World.ownsRow_made w #[] 0 (aaR _) (abN _) (by simp)) a 0 c [] rfl (by simp) (by intro j u hj; simp at hj) (by intro u hu; cases hu) (by unfold maxLen; omega) (by omega) (by simp) ?_)
 intro v' w1 qS ak6 ak7
 go_wp2
 go_ret
 refine ⟨v',rfl,by simpa using qS,?_,?_⟩
 .first | exact ak7 | (intro e; exact absurd (ak7.1 e).1 (by simp))
 .exact ((Below.refl _ w).alloc (aaR _) _).grown ak6 (by simp) (by intro k hk; simp [Value.ownBlock] at hk; omega)
end Go.Proofs
namespace Go.Am
open Go Go.RowKit Go.Proofs Go.Shelf Go.Lib
def I2 (size bytes:Nat) (el:TypeId):List AV->List GO->Option (Bool×AV×List GO)
 |[.list _ sz es],G=>some ((abk sz size || es.isEmpty)&&decide (es.length*bytes<=140737488355328),.eK G.length es.length 0 size es.length,G++[.bO es size el])
 |_,_=>none
section
variable {E:Env} {ρ:Ren}
def Sf (L:SlLaysE0.n41 E.P ρ) (hp:Plain E.P (ρ.f 41)) (i0:TypeInfo) (z:Value) (size bytes:Nat) (hi:E.P.info? (ρ.t 23)=some i0) (hz0:i0.zero=some z) (Jz:i0.size=size) (Xy:i0.bytes=bytes) (hzs:z.cells.size=size) (iJ:0 < size) (hby:0 < bytes)
  (z23:∀ w,(Go.sizeOf (ρ.t 23)).run E.P w=.ok size w) (hE:E.lo=0) :
  ∀ (args:List AV) (G:List GO) (r:AV) (G':List GO),I2 size bytes (ρ.t 23) args G=some (true,r,G')->eI E (ρ.f 41) args G (λ r' FM=>r'=r/\FM=G'):=by
 intro args G r G' h;unfold I2 at h;split at h
 .rename_i G1 k sz es;injection h with h;injection h with h1 h;injection h with h2 h3;subst h2; subst h3;simp only [aad,decide_eq_true_eq] at h1;obtain ⟨hs,agp⟩:=h1;refine ⟨hp,λ R w cs hg hl=>callsIn_wide.2 ?_⟩;cases hl with
  | @cons _ cv _ _ r1 hl=>
  cases hl;have zF:es=[]->cv=.slice none 0 0->Calls E.P (ρ.f 41) ⟨[cv]⟩ w (yW E R w λ r' FM=>r'=.eK G.length es.length 0 size es.length/\FM=G++[.bO es size (ρ.t 23)]):=λ he hc=>by
   subst he; subst hc;have cV:bG E R w (λ _=>0) ⟨[],[],G,[],none,0⟩ (⟨#[],[]⟩:Act):=
    ⟨hg,⟨λ k cs h=>by simp [fm] at h,λ k k' cs iO h=>by simp [fm] at h⟩,λ i hi=>absurd rfl hi,rfl,trivial⟩
   refine (AnyE.slices_Clone_nil L 0 0 w).mono λ e w' ⟨e1,e2⟩=>?_
   subst e1; subst e2;obtain ⟨k1,k2⟩:=cV.DD (size+65536) (ρ.t 23);have hO:Nb (size+65536) (ρ.t 23)=.bO [] size (ρ.t 23):=by
    unfold Nb;rw [aca (acO _ _)];simp
   have k1':ij E (il R) w' (G++[Nb (size+65536) (ρ.t 23)]):=k1.g;rw [hO] at k1';have hn:nth (il R).obj G.length=some .bK:=by rw [<- hg.len]; exact dL _ _
   exact ⟨_,_,il R,⟨rfl,rfl⟩,Rel.pf hn trivial,k1',k2⟩
  have Hr:∀ {v':Value} {w':World} {xs:List Value},jX size es->bj R w (aH es) xs->(∀ v∈xs,v.oneCell'=true)->w'.ownsRow w.heap.size (ρ.t 23) size v' es.length xs->v'≠.slice none 0 0->Below w.heap.size w w' ->
    yW E R w (λ r' FM=>r'=.eK G.length es.length 0 size es.length/\FM=G++[.bO es size (ρ.t 23)]) (.returned v') w':=λ {v' w' xs} x0 x1 x2 qS de XB=>by
   obtain ⟨_,qS⟩:=qS;rcases qS with ⟨rfl,_⟩|⟨g,cap,cur,rfl,Tj,hc,hn,hm,hss,ht⟩
   .exact absurd rfl de
   .obtain ⟨r1,r2⟩:=Hq hg hE XB Tj hc hn hm hss x0.g x1 x2 ht;have En:nth (R.add (.tok es.length g cap 0)).obj G.length=some (.tok es.length g cap 0):=by rw [<- hg.len]; exact dL _ _
    exact ⟨_,_,_,⟨rfl,rfl⟩,Rel.eK En ⟨aaR _,λ _=>⟨rfl,acu _,.inl (aci _).symm⟩⟩ hn,r1,r2⟩
  have VO:∀ (ad:Addr) (c:Nat),es=[]->cv=.slice (some ad) 0 c->Calls E.P (ρ.f 41) ⟨[cv]⟩ w (yW E R w λ r' FM=>r'=.eK G.length es.length 0 size es.length/\FM=G++[.bO es size (ρ.t 23)]):=λ ad c he hc=>by
   subst he; subst hc;exact (Lt L i0 z size bytes hi hz0 Jz Xy hzs iJ z23 ad c w).mono λ e w' ⟨v',e1,e2,e3,e4⟩=>by
    subst e1;exact Hr (λ x hx=>by simp at hx) .nil (by simp) e2 e3 e4
  cases r1 with
  |nq=>exact zF rfl rfl
  |kP=>exact zF rfl rfl
  |qq _ _=>exact zF rfl rfl
  |qQ _ _=>exact zF rfl rfl
  | @pd _ ad=>exact VO ad 0 rfl rfl
  | @list _ _ _ b o len cap hr hlen lS hk=>
   subst hlen;by_cases de:es=[]
   .subst de;exact VO ⟨b,o,none⟩ cap rfl rfl
   .have agq:sz=size:=by
     simp only [acM] at hs;rcases hs with q|q
     .exact aaK q
     .simp at q; exact absurd q de
    subst agq;obtain ⟨x0,xs,x1,x2,x3,x4⟩:=mB (esz:=sz) (Rel.list hr rfl lS hk) (.inr rfl);rcases x4 with ⟨he,_⟩|⟨b',o',apT,ph,Yk,xk,tV,_⟩
    .exact absurd he de
    .cases ph;have hm:es.length<=maxLen:=by
      have:es.length<=es.length*bytes:=Nat.le_mul_of_pos_right _ hby
      unfold maxLen; omega
     refine (AnyE.slices_Clone L i0 z sz bytes hi hz0 Jz Xy hzs iJ z23 b o es.length cap xs w x3 hm agp (λ j u hu=>by
      have:=tV j u hu;rw [eZ] at this;exact this) x2).mono λ e w' ⟨v',e1,e2,e3,XB⟩=>?_
     subst e1;exact Hr x0 x1 x2 e2 e3 XB
 .cases h
end
end Go.Am
