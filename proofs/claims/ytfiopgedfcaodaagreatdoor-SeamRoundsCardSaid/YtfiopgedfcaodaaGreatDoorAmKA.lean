/- The abstract machine: its values,its state,and what each operation does (definitions alone). -/
import Derived.CallsIn
import Derived.RangeFuncLeaves
import Derived.Laws.AppendOwn
set_option linter.all false
namespace Go.Am
open Go
inductive LK where
 | nil | full | opn | own (id:Nat) | fam (id j:Nat)
inductive AV where
 | bool (b:Bool)
 | int (k:IntKind) (n:Int)
 | str (s:List UInt8)
 | agg (cs:List AV)
 | tup (vs:List AV)
 | nilp
 | ptr (id off:Nat)
 | ep (cs:List AV)
 | list (k:LK) (sz:Nat) (es:List AV)
 | msl (id off sz len cap:Nat)
 | gsl (id f off sz len:Nat)
 | gp (id f i off sz:Nat) (t:TypeId)
 | nilm
 | map (id:Nat)
 | nilf
 | fn (f:FuncId) (first cap:List AV)
 | yield (id:Nat)
 | nili
 | iface (t:TypeId) (v:AV)
def LK.closed:LK→Bool
 | .own _=>false
 | .fam _ _=>false
 | _=>true
mutual
def AV.closed:AV→Bool
 | .agg cs=>closedL cs
 | .tup cs=>closedL cs
 | .ep cs=>closedL cs
 | .list k _ _=>k.closed
 | .fn _ x y=>closedL x&&closedL y
 | .iface _ v=>v.closed
 | .ptr _ _=>false
 | .msl _ _ _ _ _=>false
 | .gsl _ _ _ _ _=>false
 | .gp _ _ _ _ _ _=>false
 | .map _=>false
 | .yield _=>false
 | _=>true
def closedL:List AV→Bool
 | []=>true
 | a :: l=>a.closed&&closedL l
end
mutual
def AV.weak:AV→AV
 | .agg cs=>.agg (weakL cs)
 | .tup cs=>.tup (weakL cs)
 | .list (.own _) sz es=>.list .opn sz es
 | .list (.fam _ _) sz es=>.list .opn sz es
 | v=>v
def weakL:List AV→List AV
 | []=>[]
 | a :: l=>a.weak :: weakL l
end
inductive SV where
 | none
 | v (a:AV)
 | lp (key off:Nat)
inductive Ent where
 | put (d:Nat) (x:SV)
 | kill (d:Nat)
abbrev Slots:=List Ent
abbrev Boxes:=List (Nat × List AV)
def lk:Slots→Nat→SV
 | [],_=>.none
 | .put d x :: l,t=>bif Nat.beq d t then x else lk l t
 | .kill d :: l,t=>match lk l t with
  | .lp k off=>bif Nat.beq k d then .none else .lp k off
  | x=>x
def lkB:Boxes→Nat→Option (List AV)
 | [],_=>none
 | (d,cs) :: l,k=>bif Nat.beq d k then some cs else lkB l k
inductive GO where
 | dead
 | row (cs:List AV) (el:TypeId)
 | tok (f sz:Nat) (e:TypeId)
 | fam (fs:List Nat) (sz:Nat) (e:TypeId)
 | mit (mid n:Nat) (left:List Nat) (cur:Option Nat) (t:TypeId)
 | gro (es:List AV) (sz:Nat) (el:TypeId)
 | map (es:List (AV × AV))
 | siter (s:List UInt8) (pos:Nat)
 | loop (busy:Bool) (pending:Option Code) (fn:FuncId) (slots:Slots) (n:Nat) (params:List Tmp) (assign body:Code) (defers:Nat) (done:Bool)
 | defers (open_:Bool)
structure St where
 slots:Slots
 boxes:Boxes
 G:List GO
 marks:List Nat
 ro:Option Nat
 n:Nat
def nth {α:Type}:List α→Nat→Option α
 | [],_=>none
 | a :: _,0=>some a
 | _ :: l,n+1=>nth l n
def setN {α:Type}:List α→Nat→α→List α
 | [],_,_=>[]
 | _ :: l,0,x=>x :: l
 | a :: l,n+1,x=>a :: setN l n x
def takeN {α:Type}:Nat→List α→Option (List α)
 | 0,_=>some []
 | _+1,[]=>none
 | n+1,a :: l=>match takeN n l with
  | some r=>some (a :: r)
  | none=>none
def dropN {α:Type}:Nat→List α→List α
 | 0,l=>l
 | _+1,[]=>[]
 | n+1,_ :: l=>dropN n l
def seg {α:Type} (off n:Nat) (l:List α):Option (List α):=takeN n (dropN off l)
def splice {α:Type}:List α→Nat→List α→List α
 | l,_,[]=>l
 | [],_,_ :: _=>[]
 | _ :: l,0,y :: ys=>y :: splice l 0 ys
 | a :: l,n+1,y :: ys=>a :: splice l n (y :: ys)
def AV.cells:AV→List AV
 | .agg cs=>cs
 | v=>[v]
def AV.one:AV→Bool
 | .agg _=>false
 | .tup _=>false
 | _=>true
def ofConst0:Value→Option AV
 | .bool b=>some (.bool b)
 | .int k n=>some (.int k n)
 | .string s=>some (.str s.data.toList)
 | .slice none 0 0=>some (.list .nil 0 [])
 | .pointer none=>some .nilp
 | .map none=>some .nilm
 | .nilFunc=>some .nilf
 | .nilIface=>some .nili
 | _=>none
def ofConsts:List Value→Option (List AV)
 | []=>some []
 | v :: vs=>match ofConst0 v,ofConsts vs with
  | some a,some l=>some (a :: l)
  | _,_=>none
def ofConst:Value→Option AV
 | .agg cs=>match ofConsts cs.toList with
  | some l=>some (.agg l)
  | none=>none
 | .tuple cs=>match ofConsts cs.toList with
  | some l=>some (.tup l)
  | none=>none
 | v=>ofConst0 v
inductive TK where
 | sc
 | int (k:IntKind)
 | str
 | st (fs:List (Nat × Nat × Bool))
 | arr (len esz:Nat) (eagg:Bool)
 | sl (elem esz:Nat) (eagg:Bool) (ebytes:Nat) (ezero:Option AV)
 | map (key elem:TypeId) (ezero:Option AV)
mutual
inductive EK where
 | no
 | bool
 | int
 | str
 | st (fs:EKs)
inductive EKs where
 | nil
 | cons (off sz:Nat) (ag:Bool) (k:EK) (rest:EKs)
end
structure TI where
 k:TK
 size:Nat
 agg:Bool
 zero:Option AV
 ek:EK
def aggD:TypeDesc→Bool
 | .struct _=>true
 | .array _ _=>true
 | _=>false
def fieldsOf (P:Program):List Field→Option (List (Nat × Nat × Bool))
 | []=>some []
 | f :: fs=>match P.info? f.type,P.underlying f.type,fieldsOf P fs with
  | some i,some u,some l=>some ((f.offset,i.size,aggD u) :: l)
  | _,_,_=>none
def constOf (i:TypeInfo):Option AV:=match i.zero with
 | some z=>ofConst z
 | none=>none
def tkOf (P:Program):TypeDesc→Option TK
 | .int k=>some (.int k)
 | .string=>some .str
 | .struct fs=>match fieldsOf P fs.toList with
  | some l=>some (.st l)
  | none=>none
 | .array n e=>match P.info? e,P.underlying e with
  | some i,some u=>some (.arr n i.size (aggD u))
  | _,_=>none
 | .slice e=>match P.info? e,P.underlying e with
  | some i,some u=>some (.sl e i.size (aggD u) i.bytes (constOf i))
  | _,_=>none
 | .map k e=>match P.info? e with
  | some i=>some (.map k e (constOf i))
  | none=>none
 | _=>some .sc
def ekFs (P:Program) (ek:TypeId→EK):List Field→Option EKs
 | []=>some .nil
 | f :: fs => if f.name == "_" then none else match P.info? f.type, P.underlying f.type, ekFs P ek fs with
  | some i,some u,some l=>some (.cons f.offset i.size (aggD u) (ek f.type) l)
  | _,_,_=>none
def ekArr (sz:Nat) (ag:Bool) (k:EK):Nat→Nat→EKs
 | 0,_=>.nil
 | n+1,i=>.cons (i * sz) sz ag k (ekArr sz ag k n (i+1))
def ekOf (P:Program):Nat→TypeId→EK
 | 0,_=>.no
 | n+1,t=>match P.underlying t with
  | some .bool=>.bool
  | some (.int _)=>.int
  | some .string=>.str
  | some (.struct fs)=>if P.stoodInHeld t then .no else match ekFs P (ekOf P n) fs.toList with
   | some l=>.st l
   | none=>.no
  | some (.array m e)=>match P.info? e,P.underlying e with
   | some i,some u=>.st (ekArr i.size (aggD u) (ekOf P n e) m 0)
   | _,_=>.no
  | _=>.no
def ekTop (P:Program) (t:TypeId):EK:=match ekOf P 6 t with
 | .st l=>if P.eqGuardType P.depth t then .no else .st l
 | k=>k
def tiOf (P:Program) (t:TypeId):Option TI:=
 match P.info? t,P.underlying t with
 | some i,some u=>match tkOf P u with
  | some k=>some { k:=k,size:=i.size,agg:=aggD u,zero:=constOf i,ek:=ekTop P t }
  | none=>none
 | _,_=>none
def same0:AV→AV→Bool
 | .bool a,.bool b=>a == b
 | .int k a,.int k' b=>(k == k')&&a == b
 | .str a,.str b=>a == b
 | .nilp,.nilp=>true
 | .ptr i o,.ptr i' o'=>Nat.beq i i'&&Nat.beq o o'
 | .nilm,.nilm=>true
 | .map i,.map i'=>Nat.beq i i'
 | .nilf,.nilf=>true
 | .nili,.nili=>true
 | .msl a b c d e,.msl a' b' c' d' e'=>Nat.beq a a'&&Nat.beq b b'&&Nat.beq c c'&&Nat.beq d d'&&Nat.beq e e'
 | .gsl a b c d e,.gsl a' b' c' d' e'=>Nat.beq a a'&&Nat.beq c c'&&Nat.beq d d'&&(Nat.beq b b'&&Nat.beq e e')
 | .gp a b c d e t,.gp a' b' c' d' e' t'=>Nat.beq a a'&&Nat.beq b b'&&Nat.beq c c'&&Nat.beq d d'&&Nat.beq e e'&&Nat.beq t t'
 | _,_=>false
mutual
def sameA:AV→AV→Bool
 | .fn f x y,.fn f' x' y'=>Nat.beq f f'&&sameL x x'&&sameL y y'
 | .agg cs,.agg cs'=>sameL cs cs'
 | .ep cs,.ep cs'=>sameL cs cs'
 | .tup cs,.tup cs'=>sameL cs cs'
 | .list .nil a es,.list .nil a' es'=>Nat.beq a a'&&sameL es es'
 | .list .full a es,.list .full a' es'=>Nat.beq a a'&&sameL es es'
 | .list .opn a es,.list .opn a' es'=>Nat.beq a a'&&sameL es es'
 | .list (.own i) a es,.list (.own i') a' es'=>Nat.beq i i'&&Nat.beq a a'&&sameL es es'
 | .list (.fam i j) a es,.list (.fam i' j') a' es'=>Nat.beq i i'&&Nat.beq j j'&&Nat.beq a a'&&sameL es es'
 | a,b=>same0 a b
def sameL:List AV→List AV→Bool
 | [],[]=>true
 | a :: l,b :: r=>sameA a b&&sameL l r
 | _,_=>false
end
mutual
inductive Pat
 | int (k:IntKind)
 | bool
 | str
 | agg (ps:Pats)
 | tup (ps:Pats)
 | list (sz:Nat) (p:Pat)
 | own (id sz:Nat) (p:Pat)
 | fam (id sz:Nat) (p:Pat)
 | cst (v:AV)
 | two (u v:AV)
inductive Pats
 | nil
 | cons (p:Pat) (ps:Pats)
end
def PairT (s:Bool) (α β:Type):Type:=match s with
 | true=>α
 | false=>α × β
def Pats.isNil:Pats→Bool
 | .nil=>true
 | .cons _ _=>false
mutual
def Pat.T:Pat→Type
 | .int _=>Int
 | .bool=>Bool
 | .str=>List UInt8
 | .agg ps=>ps.T
 | .tup ps=>ps.T
 | .list _ p=>List p.T
 | .own _ _ p=>List p.T
 | .fam _ _ p=>Nat × List p.T
 | .cst _=>Unit
 | .two _ _=>Bool
def Pats.T:Pats→Type
 | .nil=>Unit
 | .cons p ps=>PairT ps.isNil p.T ps.T
end
mutual
def Pat.enc:(p:Pat)→p.T→AV
 | .int k,(n:Int)=>.int k n
 | .bool,(b:Bool)=>.bool b
 | .str,(s:List UInt8)=>.str s
 | .agg ps,x=>.agg (ps.enc x)
 | .tup ps,x=>.tup (ps.enc x)
 | .list sz p,(xs:List p.T)=>.list .opn sz (xs.map p.enc)
 | .own id sz p,(xs:List p.T)=>.list (.own id) sz (xs.map p.enc)
 | .fam id sz p,(x:Nat × List p.T)=>.list (.fam id x.1) sz (x.2.map p.enc)
 | .cst v,_=>v
 | .two u v,(b:Bool)=>bif b then v else u
def Pats.enc:(ps:Pats)→ps.T→List AV
 | .nil,_=>[]
 | .cons p .nil,x=>[p.enc x]
 | .cons p (.cons q ps),x=>p.enc x.1 :: (Pats.cons q ps).enc x.2
end
def kEq:IntKind→IntKind→Bool:=fun a b=>decide (a=b)
def AV.aggD:AV→List AV
 | .agg cs=>cs
 | _=>[]
def AV.tupD:AV→List AV
 | .tup cs=>cs
 | _=>[]
def AV.listD:AV→List AV
 | .list _ _ es=>es
 | _=>[]
def AV.famD:AV→Nat
 | .list (.fam _ j) _ _=>j
 | _=>0
def AV.intD:AV→Int
 | .int _ n=>n
 | _=>0
def AV.boolD:AV→Bool
 | .bool b=>b
 | _=>false
def AV.strD:AV→List UInt8
 | .str s=>s
 | _=>[]
def headA:List AV→AV
 | a :: _=>a
 | []=>.nilp
def tailA:List AV→List AV
 | _ :: l=>l
 | []=>[]
mutual
def Pat.decD:(p:Pat)→AV→p.T
 | .int _,v=>v.intD
 | .bool,v=>v.boolD
 | .str,v=>v.strD
 | .agg ps,v=>ps.decD v.aggD
 | .tup ps,v=>ps.decD v.tupD
 | .list _ p,v=>v.listD.map p.decD
 | .own _ _ p,v=>v.listD.map p.decD
 | .fam _ _ p,v=>(v.famD,v.listD.map p.decD)
 | .cst _,_=>()
 | .two _ v,a=>sameA a v
def Pats.decD:(ps:Pats)→List AV→ps.T
 | .nil,_=>()
 | .cons p .nil,l=>p.decD (headA l)
 | .cons p (.cons q ps),l=>(p.decD (headA l),(Pats.cons q ps).decD (tailA l))
end
def allFit (f:AV→Bool):List AV→Bool
 | []=>true
 | a :: l=>f a&&allFit f l
mutual
def Pat.fits:Pat→AV→Bool
 | .int k,v=>match v with
  | .int k' _=>kEq k k'
  | _=>false
 | .bool,v=>match v with
  | .bool _=>true
  | _=>false
 | .str,v=>match v with
  | .str _=>true
  | _=>false
 | .agg ps,v=>match v with
  | .agg cs=>ps.fits cs
  | _=>false
 | .tup ps,v=>match v with
  | .tup cs=>ps.fits cs
  | _=>false
 | .list sz p,v=>match v with
  | .list _ sz' es=>(Nat.beq sz sz' || es.isEmpty)&&allFit p.fits es
  | _=>false
 | .own id sz p,v=>match v with
  | .list (.own id') sz' es=>(Nat.beq id id'&&Nat.beq sz sz')&&allFit p.fits es
  | _=>false
 | .fam id sz p,v=>match v with
  | .list (.fam id' _) sz' es=>(Nat.beq id id'&&Nat.beq sz sz')&&allFit p.fits es
  | _=>false
 | .cst v,u=>sameA u v
 | .two u v,a=>sameA a u || sameA a v
def Pats.fits:Pats→List AV→Bool
 | .nil,l=>l.isEmpty
 | .cons p ps,l=>match l with
  | a :: l=>p.fits a&&ps.fits l
  | []=>false
end
def Pat.dec (p:Pat) (v:AV):Option p.T:=bif p.fits v then some (p.decD v) else none
def Pats.dec (ps:Pats) (l:List AV):Option ps.T:=bif ps.fits l then some (ps.decD l) else none
structure Env where
 P:Program
 ti:TypeId→Option TI
 glob:Nat→Option (List AV)
 glb:FuncId→Tmp→Bool
 elp:TypeId→Option Pat
 lo:Nat:=0
 gho:FuncId→Tmp→List (Option Nat × Nat × TypeId):=fun _ _=>[]
 elg:TypeId→Option Pat:=fun _=>none
 gx:Nat→Bool:=fun _=>false
 tiOk:∀ t i,ti t=some i→tiOf P t=some i
 mixed:P.follows .mixedOrders=true
 globOk:∀ g cs,glob g=some cs→closedL cs=true
def evO (E:Env) (slots:Slots):Operand→SV
 | .tmp t=>lk slots t
 | .const v=>match ofConst v with
  | some a=>.v a
  | none=>.none
 | .global g=>match E.glob g with
  | some cs=>.v (.ep cs)
  | none=>.none
 | .func f=>.v (.fn f [] [])
def St.put (s:St) (dst:Option Tmp) (x:SV):St:=match dst with
 | some d=>match Nat.blt d s.n with
  | true=>⟨.put d x :: s.slots,s.boxes,s.G,s.marks,s.ro,s.n⟩
  | false=>s
 | none=>s
def undefA:AV:=.tup []
def mkOf (agg:Bool) (cs:List AV):Option AV:=
 if agg then some (.agg cs) else match cs with
  | [c]=>some c
  | _=>none
def cellsAt (s:St):SV→Option (List AV × Nat)
 | .lp k off=>match lkB s.boxes k with
  | some cs=>some (cs,off)
  | none=>none
 | .v (.ptr id off)=>match nth s.G id with
  | some (.row cs _)=>some (cs,off)
  | _=>none
 | .v (.ep cs)=>some (cs,0)
 | _=>none
def moveP (n:Nat):SV→Option SV
 | .lp k off=>some (.lp k (off+n))
 | .v (.ptr id off)=>some (.v (.ptr id (off+n)))
 | .v (.ep cs)=>some (.v (.ep (dropN n cs)))
 | .v (.gp id f i off sz t)=>some (.v (.gp id f i (off+n) sz t))
 | _=>none
def bmerge (t:Bool):AV→AV→AV
 | .bool x,.bool y=>.bool (bif t then x else y)
 | .int k x,.int k' y=>if k=k' then .int k (bif t then x else y) else (bif t then .int k x else .int k' y)
 | a,b=>bif t then a else b
def partA (ag:Bool) (off sz:Nat) (cs:List AV):Option AV:=
 if ag then (match seg off sz cs with | some l=>mkOf true l | none=>none) else (match seg off 1 cs with | some l=>mkOf false l | none=>none)
mutual
def eqA:EK→AV→AV→Option Bool
 | .bool,.bool a,.bool b=>some (a == b)
 | .int,.int k a,.int k' b=>if k=k' then some (a == b) else none
 | .str,.str a,.str b=>some (a == b)
 | .st fs,.agg xs,.agg ys=>eqFs fs xs ys
 | _,_,_=>none
def eqFs:EKs→List AV→List AV→Option Bool
 | .nil,_,_=>some true
 | .cons off sz ag k rest,xs,ys=>match partA ag off sz xs,partA ag off sz ys with
  | some a,some b=>match eqA k a b,eqFs rest xs ys with
   | some t,some u=>some (t&&u)
   | _,_=>none
  | _,_=>none
end
def andI (k:IntKind) (a b:Int):Int:=k.wrap (BitVec.ofInt k.bits a &&& BitVec.ofInt k.bits b).toNat
def orI (k:IntKind) (a b:Int):Int:=k.wrap (BitVec.ofInt k.bits a ||| BitVec.ofInt k.bits b).toNat
def xorI (k:IntKind) (a b:Int):Int:=k.wrap (BitVec.ofInt k.bits a ^^^ BitVec.ofInt k.bits b).toNat
def abin (op:BinOp) (x y:AV):Option (Bool × AV):=
 match x,y with
 | .int k a,.int k' b=>
  match op with
  | .shl=>some (decide (0≤b),.int k (k.wrap (a * 2 ^ (min b.toNat k.bits))))
  | .shr=>some (decide (0≤b),.int k (a.fdiv (2 ^ (min b.toNat k.bits))))
  | _=>if k=k' then
    match op with
    | .add=>some (true,.int k (k.wrap (a+b)))
    | .sub=>some (true,.int k (k.wrap (a - b)))
    | .mul=>some (true,.int k (k.wrap (a * b)))
    | .quo=>some (!(decide (b=0)),.int k (k.wrap (a.tdiv b)))
    | .rem=>some (!(decide (b=0)),.int k (a.tmod b))
    | .and=>some (true,.int k (andI k a b))
    | .or=>some (true,.int k (orI k a b))
    | .xor=>some (true,.int k (xorI k a b))
    | .eql=>some (true,.bool (a == b))
    | .neq=>some (true,.bool (a != b))
    | .lss=>some (true,.bool (a < b))
    | .leq=>some (true,.bool (a≤b))
    | .gtr=>some (true,.bool (a > b))
    | .geq=>some (true,.bool (a≥b))
    | _=>none
   else none
 | .str a,.str b=>
  match op with
  | .add=>some (decide (a.length+b.length≤9223372036854775807),.str (a++b))
  | .eql=>some (true,.bool (a == b))
  | .neq=>some (true,.bool (!(a == b)))
  | .lss=>some (true,.bool (Op.bytesLess a b))
  | .leq=>some (true,.bool (Op.bytesLess a b || a == b))
  | .gtr=>some (true,.bool (!(Op.bytesLess a b || a == b)))
  | .geq=>some (true,.bool (!(Op.bytesLess a b)))
  | _=>none
 | _,_=>none
end Go.Am
namespace Go.Am
open Go
def St.kill (s:St) (d:Nat):St:=⟨.kill d :: s.slots,s.boxes,s.G,s.marks,s.ro,s.n⟩
def AV.notTup:AV→Bool
 | .tup _=>false
 | _=>true
def St.addG (s:St) (o:GO):St:=⟨s.slots,s.boxes,s.G++[o],s.marks,s.ro,s.n⟩
def St.inG (s:St) (G:List GO):St:=⟨s.slots,s.boxes,G,s.marks,s.ro,s.n⟩
def St.inB (s:St) (d:Nat) (cs:List AV):St:=⟨s.slots,(d,cs) :: s.boxes,s.G,s.marks,s.ro,s.n⟩
def allocA (E:Env) (f:FuncId) (s:St) (dst:Option Tmp) (el:TypeId) (cs:List AV):Option (Bool × St):=
 match dst with
 | none=>none
 | some d=>
  if E.glb f d then some (true,(s.addG (.row cs el)).put (some d) (.v (.ptr s.G.length 0)))
  else match Nat.blt d s.n with
   | true=>some (true,((s.kill d).inB d cs).put (some d) (.lp d 0))
   | false=>none
def evL (E:Env) (slots:Slots):List Operand→Option (List AV)
 | []=>some []
 | x :: l=>match evO E slots x,evL E slots l with
  | .v a,some r=>some (a :: r)
  | _,_=>none
def evP (E:Env) (slots:Slots):List (Nat × Operand)→Option (List (Nat × AV))
 | []=>some []
 | (i,x) :: l=>match evO E slots x,evP E slots l with
  | .v a,some r=>some ((i,a) :: r)
  | _,_=>none
def placeOf:TK→Nat→Option (Nat × Nat)
 | .st fs,j=>match nth fs j with
  | some (o,sz,_)=>some (o,sz)
  | none=>none
 | .arr _ esz _,j=>some (j * esz,esz)
 | _,_=>none
def fillA (place:Nat→Option (Nat × Nat)) (cells:List AV):List (Nat × AV)→Option (List AV)
 | []=>some cells
 | (i,v) :: rest=>match place i with
  | none=>none
  | some (off,sz)=>
   if v.notTup&&Nat.beq v.cells.length sz&&Nat.ble (off+sz) cells.length then fillA place (splice cells off v.cells) rest else none
def fillE (esz:Nat) (es:List AV):List (Nat × AV)→Option (List AV)
 | []=>some es
 | (i,v) :: rest=>
  if v.notTup&&Nat.beq v.cells.length esz&&Nat.ble (i+1) es.length&&v.closed then fillE esz (setN es i v) rest else none
def buildA (E:Env) (s:St) (t:TypeId) (parts:List (Nat × Operand)):Option AV:=
 match E.ti t,evP E s.slots parts with
 | some i,some ps=>match i.zero with
  | some z=>match fillA (placeOf i.k) z.cells ps with
   | some cs=>if i.agg&&z.notTup then some (.agg cs) else none
   | none=>none
  | none=>none
 | _,_=>none
def weakP:List (Nat × AV)→List (Nat × AV)
 | []=>[]
 | (i,v) :: l=>(i,v.weak) :: weakP l
def buildSliceA (E:Env) (s:St) (t:TypeId) (len:Nat) (parts:List (Nat × Operand)):Option AV:=
 match E.ti t,evP E s.slots parts with
 | some i,some ps=>match i.k with
  | .sl _ esz _ _ (some z)=>
    if Nat.beq z.cells.length esz&&Nat.ble 1 esz&&Nat.ble (len * esz) 16777216&&z.notTup&&z.closed then
     match fillE esz (List.replicate len z) (weakP ps) with
     | some es=>some (.list .full esz es)
     | none=>none
    else none
  | _=>none
 | _,_=>none
def loadA (E:Env) (s:St) (t:TypeId) (p:SV):Option AV:=
 match E.ti t,cellsAt s p with
 | some i,some (cs,off)=>match seg off i.size cs with
  | some l=>mkOf i.agg l
  | none=>none
 | _,_=>none
def storeA (E:Env) (s:St) (t:TypeId) (p x:SV):Option St:=
 match E.ti t,x with
 | some i,.v v=>
  if v.notTup&&Nat.beq v.cells.length i.size then
   match p with
   | .lp k off=>match lkB s.boxes k with
    | some cs=>if Nat.ble (off+v.cells.length) cs.length then some (s.inB k (splice cs off v.cells)) else none
    | none=>none
   | .v (.ptr id off)=>match nth s.G id with
    | some (.row cs el)=>if Nat.ble (off+v.cells.length) cs.length then some (s.inG (setN s.G id (.row (splice cs off v.cells) el))) else none
    | _=>none
   | _=>none
  else none
 | _,_=>none
def nthD (es:List AV) (n:Nat):AV:=match nth es n with
 | some e=>e
 | none=>undefA
def findFam:List GO→Nat→TypeId→Nat→Option Nat
 | [],_,_,_=>none
 | .fam _ sz e :: G,sz',e',i=>match findFam G sz' e' (i+1) with
  | some j=>some j
  | none=>bif Nat.beq sz sz'&&Nat.beq e e' then some i else none
 | _ :: G,sz',e',i=>findFam G sz' e' (i+1)
def Pat.fin (G:List GO):Pat→Pat
 | .fam e sz p=>match findFam G sz e 0 with
  | some id=>.fam id sz p
  | none=>.fam e sz p
 | .agg ps=>.agg (finS ps)
 | p=>p
where
 finS:Pats→Pats
  | .nil=>.nil
  | .cons p ps=>.cons (match p with
   | .fam e sz q=>match findFam G sz e 0 with
    | some id=>.fam id sz q
    | none=>.fam e sz q
   | p=>p) (finS ps)
def elgOf (E:Env) (G:List GO) (t:TypeId):Option Pat:=match E.elg t with
 | some p=>some (p.fin G)
 | none=>E.elp t
def groAt (E:Env) (s:St) (id f i sz:Nat) (t:TypeId):Option (Bool × AV):=match nth s.G id with
 | some (.gro es sz' _)=>match elgOf E s.G t with
  | some p=>if Nat.beq sz sz' then some (decide (f=es.length)&&decide (i < es.length)&&p.fits (nthD es i),p.enc (p.decD (nthD es i))) else none
  | none=>if Nat.beq sz sz' then some (decide (f=es.length)&&decide (i < es.length),nthD es i) else none
 | _=>none
def loadG (E:Env) (s:St) (t:TypeId) (p:SV):Option (Bool × AV):=match p with
 | .v (.gp id f i off sz ty)=>match E.ti t,groAt E s id f i sz ty with
  | some ti,some (c,v)=>match seg off ti.size v.cells with
   | some l=>match mkOf ti.agg l with
    | some r=>some (c,r)
    | none=>none
   | none=>none
  | _,_=>none
 | p=>match loadA E s t p with
  | some v=>some (true,v)
  | none=>none
def storeG (E:Env) (s:St) (t:TypeId) (p x:SV):Option (Bool × St):=match p with
 | .v (.gp id f i off sz ty)=>match E.ti t,x,nth s.G id with
  | some ti,.v x,some (.gro es sz' el)=>
   if x.notTup&&Nat.beq x.cells.length ti.size&&Nat.beq sz sz' then
    if Nat.beq off 0&&Nat.beq ti.size sz then some (decide (f=es.length)&&decide (i < es.length),s.inG (setN s.G id (.gro (setN es i x) sz' el)))
    else match groAt E s id f i sz ty with
     | some (c,.agg cs)=>if Nat.ble (off+ti.size) cs.length&&Nat.beq cs.length sz then some (c,s.inG (setN s.G id (.gro (setN es i (.agg (splice cs off x.cells))) sz' el))) else none
     | _=>none
   else none
  | _,_,_=>none
 | p=>match storeA E s t p x with
  | some s'=>some (true,s')
  | none=>none
def indexAddrA (E:Env) (t:TypeId) (x ix:SV):Option (Bool × SV):=
 match E.ti t,ix with
 | some i,.v (.int _ n)=>match i.k,x with
  | .sl _ esz _ _ _,.v (.list _ sz es)=>if Nat.beq sz esz || es.isEmpty then
    match E.elp t with
    | some p=>some (decide (0≤n∧n < es.length)&&p.fits (nthD es n.toNat),.v (.ep (p.enc (p.decD (nthD es n.toNat))).cells))
    | none=>some (decide (0≤n∧n < es.length),.v (.ep (nthD es n.toNat).cells))
   else none
  | .sl _ esz _ _ _,.v (.msl id off sz len _)=>if Nat.beq sz esz then some (decide (0≤n∧n < len),.v (.ptr id (off+n.toNat * sz))) else none
  | .sl _ esz _ _ _,.v (.gsl id f off sz len)=>if Nat.beq sz esz then some (decide (0≤n∧n < len),.v (.gp id f (off+n.toNat) 0 sz t)) else none
  | .arr len esz _,.v (.ep cs)=>match E.elp t with
   | some p=>if Nat.beq esz 1&&Nat.ble len cs.length then some (decide (0≤n∧n < len)&&p.fits (nthD cs n.toNat),.v (.ep [p.enc (p.decD (nthD cs n.toNat))])) else none
   | none=>some (decide (0≤n∧n < len),.v (.ep (dropN (n.toNat * esz) cs)))
  | .arr len esz _,p=>match moveP (n.toNat * esz) p with
   | some q=>some (decide (0≤n∧n < len),q)
   | none=>none
  | _,_=>none
 | _,_=>none
def fieldAddrA (E:Env) (t:TypeId) (x:SV) (j:Nat):Option SV:=
 match E.ti t with
 | some i=>match i.k with
  | .st fs=>match nth fs j with
   | some (o,sz,_)=>if Nat.ble 1 sz then moveP o x else none
   | none=>none
  | _=>none
 | none=>none
def fieldA (E:Env) (t:TypeId) (x:SV) (j:Nat):Option AV:=
 match E.ti t,x with
 | some i,.v (.agg cs)=>match i.k with
  | .st fs=>match nth fs j with
   | some (o,sz,ag)=>if ag then (match seg o sz cs with | some l=>mkOf true l | none=>none) else (match seg o 1 cs with | some l=>mkOf false l | none=>none)
   | none=>none
  | _=>none
 | _,_=>none
def indexA (E:Env) (t:TypeId) (x ix:SV):Option (Bool × AV):=
 match E.ti t,x,ix with
 | some i,.v (.str l),.v (.int _ n)=>match i.k with
  | .str=>some (decide (0≤n∧n < l.length),.int .u8 (l.getD n.toNat 0).toNat)
  | _=>none
 | some i,.v (.agg cs),.v (.int _ n)=>match i.k with
  | .arr len esz ag=>match (if ag then (match seg (n.toNat * esz) esz cs with | some l=>mkOf true l | none=>none) else (match seg (n.toNat * esz) 1 cs with | some l=>mkOf false l | none=>none)) with
   | some v=>some (decide (0≤n∧n < len),v)
   | none=>none
  | _=>none
 | _,_,_=>none
def boundA (y:Nat):SV→Option (Bool × Nat)
 | .v (.int _ n)=>some (decide (0≤n∧n≤y),n.toNat)
 | _=>none
def subA {α:Type} (lo hi:Nat) (l:List α):List α:=(l.take hi).drop lo
def optO (E:Env) (slots:Slots):Option Operand→Option (Option SV)
 | none=>some none
 | some x=>some (some (evO E slots x))
def lohi (len:Nat) (lo hi:Option SV):Option (Bool × Nat × Nat):=
 match (match hi with | none=>some (true,len) | some h=>boundA len h) with
 | none=>none
 | some (c1,h)=>match (match lo with | none=>some (true,0) | some l=>boundA h l) with
  | none=>none
  | some (c2,l)=>some (c1&&c2,l,h)
def mkD (agg:Bool) (l:List AV):AV:=match agg with
 | true=>.agg l
 | false=>headA l
def elemsT (agg:Bool) (sz:Nat):Nat→List AV→List AV
 | 0,_=>[]
 | n+1,cs=>mkD agg (cs.take sz) :: elemsT agg sz n (cs.drop sz)
def elemOk (ag:Bool) (e:AV):Bool:=e.notTup&&(ag || e.one)&&e.closed
def sliceA (E:Env) (t:TypeId) (x:SV) (lo hi:Option SV) (mx:Option Operand):Option (Bool × AV):=
 match E.ti t,mx with
 | some i,none=>match i.k,x with
  | .str,.v (.str l)=>match lohi l.length lo hi with
   | some (c,a,b)=>some (c,.str (subA a b l))
   | none=>none
  | .sl _ esz _ _ _,.v (.list k sz es)=>
   if Nat.beq sz esz || es.isEmpty then
    match lohi es.length lo hi with
    | some (c,a,b)=>some (c,.list (match k with | .nil=>.nil | .full=>(match hi with | none=>.full | some _=>.opn) | _=>.opn) esz (subA a b es))
    | none=>none
   else none
  | .sl _ esz _ _ _,.v (.msl id off sz len cap)=>
   if Nat.beq sz esz then
    match lohi len lo hi with
    | some (c,a,b)=>some (c,.msl id (bif Nat.beq cap a then off else off+a * sz) sz (b - a) (cap - a))
    | none=>none
   else none
  | .sl _ esz _ _ _,.v (.gsl id f off sz len)=>
   if Nat.beq sz esz then
    match lohi len lo hi with
    | some (c,a,b)=>some (c,.gsl id f (off+a) sz (b - a))
    | none=>none
   else none
  | .arr len esz ag,.v (.ep cs)=>match lo,hi with
   | none,none=>if Nat.ble (len * esz) cs.length&&Nat.ble 1 esz&&(ag || Nat.beq esz 1)&&allFit (elemOk ag) (elemsT ag esz len cs) then some (true,.list .full esz (elemsT ag esz len cs)) else none
   | _,_=>none
  | _,_=>none
 | _,_=>none
def tokUp (G:List GO) (id n:Nat) (f sz:Nat) (e:TypeId):List GO:=setN G id (.tok (f+n) sz e)
def setA (fs:List Nat) (j n:Nat):List Nat:=bif Nat.beq j fs.length then fs++[n] else setN fs j n
def memA (fs:List Nat) (j n:Nat):Bool:=decide (nth fs j=some n) || (Nat.beq j fs.length&&Nat.beq n 0)
def appendA (G:List GO) (elem esz ebytes:Nat) (x:AV) (ys:List AV):Option (Bool × AV × List GO):=
 match x,ys with
 | .list k sz es,[]=>match k with
  | .nil=>some (true,.list .nil sz es,G)
  | k=>some (true,.list k sz es,G)
 | .list k sz es,y :: ys=>
  match k with
  | .nil=>some (decide ((es.length+(y :: ys).length) * ebytes≤140737488355328),.list (.own G.length) esz (es++(y :: ys)),G++[.tok (es.length+(y :: ys).length) esz elem])
  | .full=>if Nat.beq sz esz then some (decide ((es.length+(y :: ys).length) * ebytes≤140737488355328),.list (.own G.length) esz (es++(y :: ys)),G++[.tok (es.length+(y :: ys).length) esz elem]) else none
  | .own id=>match nth G id with
   | some (.tok f sz' e')=>if Nat.beq sz' esz&&Nat.beq e' elem&&Nat.beq sz esz then
     some (decide (f=es.length)&&decide ((es.length+(y :: ys).length) * ebytes≤140737488355328),.list (.own id) esz (es++(y :: ys)),tokUp G id (y :: ys).length f esz elem) else none
   | _=>none
  | .fam id j=>match nth G id with
   | some (.fam fs sz' e')=>if Nat.beq sz' esz&&Nat.beq e' elem&&Nat.beq sz esz then
     some (memA fs j es.length&&decide ((es.length+(y :: ys).length) * ebytes≤140737488355328),.list (.fam id j) esz (es++(y :: ys)),setN G id (.fam (setA fs j (es.length+(y :: ys).length)) esz elem)) else none
   | _=>none
  | .opn=>none
 | .gsl id f off sz len,[]=>some (true,.gsl id f off sz len,G)
 | .gsl id f off sz len,y :: ys=>match nth G id with
  | some (.gro es sz' e')=>if Nat.beq sz' esz&&Nat.beq e' elem&&Nat.beq sz esz then
    some (decide (f=es.length)&&decide (off=0)&&decide (len=f)&&decide ((es.length+(y :: ys).length) * ebytes≤140737488355328),.gsl id (es.length+(y :: ys).length) 0 esz (es.length+(y :: ys).length),setN G id (.gro (es++(y :: ys)) esz elem)) else none
  | _=>none
 | _,_=>none
def byteA (b:UInt8):AV:=.int .u8 b.toNat
def bytesD (es:List AV):List UInt8:=es.map fun a=>UInt8.ofNat a.intD.toNat
def runesD (es:List AV):List UInt8:=es.flatMap fun a=>(Utf8.encode a.intD).data.toList
def maxA:AV→List AV→Option AV
 | x,[]=>some x
 | .int k x,.int k' y :: l=>if k=k' then maxA (.int k (if y > x then y else x)) l else none
 | _,_=>none
def minA:AV→List AV→Option AV
 | x,[]=>some x
 | .int k x,.int k' y :: l=>if k=k' then minA (.int k (if y < x then y else x)) l else none
 | .str x,.str y :: l=>minA (.str (bif Op.bytesLess x y || x == y then x else y)) l
 | _,_=>none
def cellsL:List AV→List AV
 | []=>[]
 | e :: es=>e.cells++cellsL es
def copyA (s:St) (esz:Nat) (d x:AV):Option (Nat × List GO):=
 match d with
 | .msl id off sz len _=>match nth s.G id with
  | some (.row cs el)=>
   if Nat.beq sz esz then
    match x with
    | .list _ sz' es=>if Nat.beq sz' esz || es.isEmpty then
      let n:=Nat.min es.length len
      let l:=cellsL (es.take n)
      if Nat.ble (off+l.length) cs.length then some (n,setN s.G id (.row (splice cs off l) el)) else none
     else none
    | .str bs=>
      if Nat.beq esz 1&&Nat.ble (off+(bs.take (Nat.min bs.length len)).length) cs.length then some (Nat.min bs.length len,setN s.G id (.row (splice cs off ((bs.take (Nat.min bs.length len)).map byteA)) el)) else none
    | .msl id' off' sz' len' _=>match nth s.G id' with
     | some (.row cs' _)=>
      let n:=Nat.min len' len
      match seg off' (n * esz) cs' with
      | some l=>if Nat.beq sz' esz&&Nat.ble (off+l.length) cs.length then some (n,setN s.G id (.row (splice cs off l) el)) else none
      | none=>none
     | _=>none
    | _=>none
   else none
  | _=>none
 | .gsl id f off sz len=>match nth s.G id,x with
  | some (.gro es sz' el),.list _ szx xs=>if Nat.beq sz esz&&Nat.beq sz' sz&&(Nat.beq szx esz || xs.isEmpty)&&Nat.ble f es.length&&Nat.ble es.length f&&Nat.ble (off+Nat.min xs.length len) es.length then
    some (Nat.min xs.length len,setN s.G id (.gro (splice es off (xs.take (Nat.min xs.length len))) sz' el)) else none
  | _,_=>none
 | _=>none
def builtinA (E:Env) (s:St) (dst:Option Tmp) (b:Builtin) (args:List AV) (tys:List TypeId):Option (Bool × St):=
 match b,args with
 | .len,[x]=>match tys with
  | t :: _=>match E.ti t with
   | some i=>match i.k,x with
    | .str,.str l=>some (true,s.put dst (.v (.int .i64 l.length)))
    | .sl ..,.list _ _ es=>some (true,s.put dst (.v (.int .i64 es.length)))
    | .sl ..,.msl _ _ _ len _=>some (true,s.put dst (.v (.int .i64 len)))
    | .sl ..,.gsl _ _ _ _ len=>some (true,s.put dst (.v (.int .i64 len)))
    | .arr n _ _,_=>some (true,s.put dst (.v (.int .i64 n)))
    | .map ..,.nilm=>some (true,s.put dst (.v (.int .i64 0)))
    | .map ..,.map id=>match nth s.G id with
     | some (.map es)=>some (true,s.put dst (.v (.int .i64 es.length)))
     | _=>none
    | _,_=>none
   | none=>none
  | _=>none
 | .append,[x,.list _ sz ys]=>match tys with
  | [t,u]=>match E.ti t with
   | some i=>match i.k with
    | .sl elem esz _ ebytes (some z)=>
     if (Nat.beq sz esz || ys.isEmpty)&&Nat.beq t u&&Nat.ble 1 esz&&Nat.ble 1 ebytes&&Nat.beq z.cells.length esz&&z.notTup then
      match appendA s.G elem esz ebytes x ys with
      | some (c,v,G')=>some (c,(s.inG G').put dst (.v v))
      | none=>none
     else none
    | _=>none
   | none=>none
  | _=>none
 | .append,[x,.str bs]=>match tys with
  | [t,u]=>match E.ti t,E.ti u with
   | some i,some j=>match i.k,j.k with
    | .sl elem esz _ ebytes (some z),.str=>
     if Nat.beq esz 1&&Nat.ble 1 ebytes&&Nat.beq z.cells.length esz&&z.notTup then
      match appendA s.G elem esz ebytes x (bs.map byteA) with
      | some (c,v,G')=>some (c,(s.inG G').put dst (.v v))
      | none=>none
     else none
    | _,_=>none
   | _,_=>none
  | _=>none
 | .copy,[d,x]=>match tys with
  | t :: _=>match E.ti t with
   | some i=>match i.k with
    | .sl _ esz _ _ _=>match copyA s esz d x with
     | some (n,G')=>some (true,(s.inG G').put dst (.v (.int .i64 n)))
     | none=>none
    | _=>none
   | none=>none
  | _=>none
 | .clear,[x]=>match dst,tys,x with
  | none,[t],.gsl id f off sz len=>match E.ti t,nth s.G id with
   | some i,some (.gro es sz' el)=>match i.k with
    | .sl elem esz _ _ (some z)=>if Nat.beq sz esz&&Nat.beq sz' sz&&Nat.beq el elem&&Nat.beq z.cells.length esz&&z.notTup&&z.closed then
      some (decide (f=es.length)&&decide (off+len≤es.length),s.inG (setN s.G id (.gro (splice es off (List.replicate len z)) sz' el))) else none
    | _=>none
   | _,_=>none
  | _,_,_=>none
 | .max,x :: l=>match maxA x l with
  | some v=>some (true,s.put dst (.v v))
  | none=>none
 | .min,x :: l=>match minA x l with
  | some v=>some (true,s.put dst (.v v))
  | none=>none
 | _,_=>none
def EK.plain:EK→Bool
 | .bool | .int | .str=>true
 | .st _=>true
 | _=>false
def EK.wide:EK→Bool
 | .st _=>true
 | _=>false
def scalarA:AV→Bool
 | .bool _=>true
 | .int _ _=>true
 | .str _=>true
 | _=>false
def keySameS:AV→AV→Bool
 | .bool a,.bool b=>a == b
 | .int k a,.int l b=>decide (k=l)&&a == b
 | .str a,.str b=>a == b
 | _,_=>false
def keySameL:List AV→List AV→Bool
 | [],[]=>true
 | a :: l,b :: r=>keySameS a b&&keySameL l r
 | _,_=>false
def keySame:AV→AV→Bool
 | .agg xs,.agg ys=>keySameL xs ys
 | _,_=>false
def eqK (e:EK) (a b:AV):Option Bool:=match eqA e a b with
 | some true=>bif e.wide&&!keySame a b then none else some true
 | r=>r
def mfind (e:EK) (k:AV):List (AV × AV)→Option (Option AV)
 | []=>some none
 | (k',v) :: l=>match eqK e k k' with
  | some true=>some (some v)
  | some false=>mfind e k l
  | none=>none
def mput (e:EK) (k v:AV):List (AV × AV)→Option (List (AV × AV))
 | []=>some [(k,v)]
 | (k',v') :: l=>match eqK e k k' with
  | some true=>some ((k,v) :: l)
  | some false=>match mput e k v l with
   | some r=>some ((k',v') :: r)
   | none=>none
  | none=>none
def keyFits:EK→AV→Bool
 | .bool,.bool _=>true
 | .int,.int _ _=>true
 | .str,.str _=>true
 | .st fs,.agg cs=>cs.all scalarA&&(eqFs fs cs cs).isSome
 | _,_=>false
def mapOf (s:St):SV→Option (List (AV × AV))
 | .v .nilm=>some []
 | .v (.map id)=>match nth s.G id with
  | some (.map es)=>some es
  | _=>none
 | _=>none
def famsOf (G:List GO) (id:Nat):List Nat:=match nth G id with
 | some (.fam fs _ _)=>fs
 | _=>[]
def zeroF (E:Env) (G:List GO) (t:TypeId) (z:AV):AV:=match E.elg t,z with
 | some (.fam e sz _),.list .nil _ []=>match findFam G sz e 0 with
  | some id=>.list (.fam id (famsOf G id).length) sz []
  | none=>z
 | _,_=>z
def lookupA0 (E:Env) (s:St) (t:TypeId) (m k:SV):Option (AV × Bool):=match E.ti t,mapOf s m,k with
 | some i,some es,.v k=>match i.k with
  | .map kt _ (some z)=>match E.ti kt with
   | some j=>if j.ek.plain&&keyFits j.ek k then match mfind j.ek k es with
     | some (some v)=>some (v,true)
     | some none=>some (z,false)
     | none=>none
    else none
   | none=>none
  | _=>none
 | _,_,_=>none
def lookupA (E:Env) (s:St) (t:TypeId) (m k:SV):Option (AV × Bool):=match lookupA0 E s t m k with
 | some (v,false)=>some (zeroF E s.G t v,false)
 | r=>r
def updateA (E:Env) (s:St) (t:TypeId) (m k x:SV):Option St:=match E.ti t,m,k,x with
 | some i,.v (.map id),.v k,.v x=>match i.k,nth s.G id with
  | .map kt _ _,some (.map es)=>match E.ti kt with
   | some j=>if j.ek.plain&&keyFits j.ek k then match mput j.ek k x es with
     | some es'=>some (s.inG (setN s.G id (.map es')))
     | none=>none
    else none
   | none=>none
  | _,_=>none
 | _,_,_,_=>none
def decodeA (l:List UInt8) (pos:Nat):Nat × Nat:=
 bif Nat.blt (l.getD pos 0).toNat 128 then ((l.getD pos 0).toNat,1) else Utf8.decode ⟨⟨l⟩⟩ pos
def nextA (s:St) (dst:Option Tmp) (x:SV):Option St:=match x with
 | .v (.ptr id 0)=>match nth s.G id with
  | some (.siter l pos)=>bif Nat.blt pos l.length then
    match decodeA l pos with
    | (c,n)=>some ((s.inG (setN s.G id (.siter l (pos+n)))).put dst (.v (.tup [.bool true,.int .i64 pos,.int .i32 c])))
   else some (s.put dst (.v (.tup [.bool false])))
  | _=>none
 | _=>none
def entA (es:List (AV × AV)) (i:Nat):AV × AV:=match nth es i with
 | some e=>e
 | none=>(undefA,undefA)
def keyPat (E:Env) (kt:TypeId):Option Pat:=match E.elp kt with
 | some p=>some p
 | none=>match E.ti kt with
  | some i=>match i.k with
   | .int k=>some (.int k)
   | .str=>some .str
   | _=>none
  | none=>none
def entP (E:Env) (t:TypeId) (e:AV × AV):Bool × AV × AV:=match E.ti t with
 | some i=>match i.k with
  | .map kt _ _=>match E.elp t,keyPat E kt with
   | some pv,some pk=>(pk.fits e.1&&pv.fits e.2,pk.enc (pk.decD e.1),pv.enc (pv.decD e.2))
   | _,_=>(true,e.1,e.2)
  | _=>(true,e.1,e.2)
 | none=>(true,e.1,e.2)
def nextM (E:Env) (s:St) (dst:Option Tmp) (x:SV):Option (Bool × St × List Nat × (Nat→Bool × St)):=match x with
 | .v (.ptr id 0)=>match nth s.G id with
  | some (.mit mid n left _ t)=>match nth s.G mid with
   | some (.map es)=>some (decide (es.length=n),s.put dst (.v (.tup [.bool false])),left,
     fun i=>((entP E t (entA es i)).1,(s.inG (setN s.G id (.mit mid n (left.erase i) (some i) t))).put dst (.v (.tup [.bool true,(entP E t (entA es i)).2.1,(entP E t (entA es i)).2.2]))))
   | _=>none
  | _=>none
 | _=>none
def nextOp (E:Env) (s:St) (o:Oper):Option (Bool × St × List Nat × (Nat→Bool × St)):=match o.op with
 | .next x false=>nextM E s o.dst (evO E s.slots x)
 | _=>none
def eqO (E:Env) (op:BinOp) (t:TypeId) (a b:AV):Option Bool:=match op,E.ti t with
 | .eql,some i=>eqA i.ek a b
 | .neq,some i=>match eqA i.ek a b with
  | some r=>some (!r)
  | none=>none
 | _,_=>none
def buildSliceM (E:Env) (f:FuncId) (s:St) (o:Oper):Option St:=match o.op with
 | .buildSlice t len parts=>match o.dst with
  | some d=>if E.glb f d then match E.ti t with
    | some i=>match i.k,buildSliceA E s t len parts.toList with
     | .sl elem _ _ _ _,some (.list _ esz es)=>some ((s.addG (.row (cellsL es) elem)).put (some d) (.v (.msl s.G.length 0 esz len len)))
     | _,_=>none
    | none=>none
   else if E.glb f (d+196608) then match E.ti t with
    | some i=>match i.k,buildSliceA E s t len parts.toList with
     | .sl elem _ _ _ _,some (.list _ esz es)=>if Nat.ble len 65536 then some ((s.addG (.gro es esz elem)).put (some d) (.v (.gsl s.G.length len 0 esz len))) else none
     | _,_=>none
    | none=>none
   else if E.glb f (d+65536) then match E.ti t with
    | some i=>match i.k,buildSliceA E s t len parts.toList with
     | .sl elem _ _ _ _,some (.list _ esz es)=>if Nat.ble len 65536 then some ((s.addG (.tok len esz elem)).put (some d) (.v (.list (.own s.G.length) esz es))) else none
     | _,_=>none
    | none=>none
   else none
  | none=>none
 | _=>none
def wkL (wk:Bool) (es:List AV):List AV:=match wk with
 | true=>es.map AV.weak
 | false=>es
def frzAs (wk:Bool):List AV→List GO→Bool × List AV × List GO
 | [],G=>(true,[],G)
 | .gsl id f 0 sz len :: l,G=>match nth G id with
  | some (.gro es sz' _)=>match frzAs wk l (setN G id .dead) with
   | (c,r,G')=>(decide (f=es.length)&&decide (len=es.length)&&Nat.beq sz sz'&&closedL (wkL wk es)&&c,.list .opn sz (wkL wk es) :: r,G')
  | _=>match frzAs wk l G with
   | (_,r,G')=>(false,r,G')
 | a :: l,G=>match frzAs wk l G with
  | (c,r,G')=>(c,a :: r,G')
def frzSlot (cut wk:Bool) (s:St) (t:Tmp):Option (Bool × St):=match lk s.slots t with
 | .v (.gsl id f off sz len)=>match nth s.G id with
  | some (.gro es sz' _)=>if Nat.beq off 0&&Nat.beq sz sz' then
    some (decide (f=es.length)&&(bif cut then decide (len≤es.length) else decide (len=es.length))&&closedL (wkL wk es),⟨.put t (.v (.list .opn sz (wkL wk (bif cut then es.take len else es)))) :: s.slots,s.boxes,setN s.G id .dead,s.marks,s.ro,s.n⟩) else none
  | _=>none
 | .v (.ptr id 0)=>match nth s.G id with
  | some (.row cs _)=>some (closedL cs,⟨.put t (.v (.ep cs)) :: s.slots,s.boxes,setN s.G id .dead,s.marks,s.ro,s.n⟩)
  | _=>none
 | .v (.agg cs)=>match frzAs wk cs s.G with
  | (c,cs',G')=>some (c,⟨.put t (.v (.agg cs')) :: s.slots,s.boxes,G',s.marks,s.ro,s.n⟩)
 | _=>none
def frzTmps (cut wk:Bool):List Operand→St→Bool × St
 | [],s=>(true,s)
 | .tmp t :: l,s=>match frzSlot cut wk s t with
  | some (c,s')=>match frzTmps cut wk l s' with
   | (c',s2)=>(c&&c',s2)
  | none=>frzTmps cut wk l s
 | _ :: l,s=>frzTmps cut wk l s
def frzO (E:Env) (f:FuncId) (s:St) (o:Oper):Option (Bool × St):=match o.dst with
 | some d=>if E.glb f (d+262144) then some (frzTmps (E.glb f (d+393216)) (E.glb f (d+458752)) o.op.operands.toList s) else none
 | none=>none
def convertA (E:Env) (s:St) (a b:TypeId) (x:SV):Option (Bool × AV):=
 match E.ti a,E.ti b,x with
 | some i,some j,.v x=>match j.k,x with
  | .int k,.int _ n=>some (true,.int k (k.wrap n))
  | .str,.list _ sz es=>match i.k with
   | .sl elem 1 _ _ _=>match E.ti elem with
    | some e=>match e.k with
     | .int .u8=>some ((Nat.beq sz 1 || es.isEmpty)&&allFit (Pat.fits (.int .u8)) es,.str (bytesD es))
     | .int .i32=>some ((Nat.beq sz 1 || es.isEmpty)&&allFit (Pat.fits (.int .i32)) es,.str (runesD es))
     | _=>none
    | none=>none
   | _=>none
  | .str,.msl id off 1 len _=>match i.k,nth s.G id with
   | .sl elem 1 _ _ _,some (.row cs _)=>match E.ti elem with
    | some e=>match e.k with
     | .int .u8=>some (Nat.ble (off+len) cs.length&&allFit (Pat.fits (.int .u8)) (subA off (off+len) cs),.str (bytesD (subA off (off+len) cs)))
     | _=>none
    | none=>none
   | _,_=>none
  | _,_=>none
 | _,_,_=>none
def famY (id sz:Nat):List AV→List Nat→Option (List AV × List Nat)
 | [],fs=>some ([],fs)
 | .list .nil _ [] :: l,fs=>match famY id sz l (fs++[0]) with
  | some (r,fs')=>some (.list (.fam id fs.length) sz [] :: r,fs')
  | none=>none
 | .list .full sz' es :: l,fs=>if Nat.beq sz sz' then match famY id sz l (fs++[es.length]) with
   | some (r,fs')=>some (.list (.fam id fs.length) sz es :: r,fs')
   | none=>none
  else none
 | _ :: _,_=>none
def eqT (e:EK) (k k':AV):Bool:=match eqK e k k' with
 | some b=>b
 | none=>false
def mkeys (e:EK) (k:AV):List (AV × AV)→Bool
 | []=>true
 | (k',_) :: l=>(eqK e k k').isSome&&mkeys e k l
def mgetT (e:EK) (k:AV):List (AV × AV)→Option AV
 | []=>none
 | (k',v) :: l=>bif eqT e k k' then some v else mgetT e k l
def mputT (e:EK) (k v:AV):List (AV × AV)→List (AV × AV)
 | []=>[(k,v)]
 | (k',v') :: l=>bif eqT e k k' then (k,v) :: l else (k',v') :: mputT e k v l
def mgetD (e:EK) (k z:AV) (es:List (AV × AV)):AV:=(mgetT e k es).getD z
def mixT (e:EK) (k:AV):List (AV × AV)→Nat
 | []=>0
 | (k',_) :: l=>bif eqT e k k' then 0 else mixT e k l+1
def setVal:List (AV × AV)→Nat→AV→List (AV × AV)
 | [],_,_=>[]
 | (k,_) :: l,0,x=>(k,x) :: l
 | e :: l,n+1,x=>e :: setVal l n x
def entryA (E:Env) (s:St) (x:SV):Option (Bool × AV):=match x with
 | .v (.ptr id 0)=>match nth s.G id with
  | some (.mit mid n _ (some i) t)=>match nth s.G mid with
   | some (.map es)=>some (decide (es.length=n)&&decide (i < n)&&(entP E t (entA es i)).1,.tup [(entP E t (entA es i)).2.1,(entP E t (entA es i)).2.2])
   | _=>none
  | _=>none
 | _=>none
def mapEntryA (E:Env) (s:St) (t:TypeId) (m k:SV):Option (Bool × AV × St):=match E.ti t,m,k with
 | some i,.v (.map id),.v k=>match i.k,nth s.G id with
  | .map kt _ (some z),some (.map es)=>match E.ti kt with
   | some j=>if j.ek.plain&&keyFits j.ek k then
     some (mkeys j.ek k es,.tup [mgetD j.ek k z es,.int .i64 (mixT j.ek k es:Nat)],s.inG (setN s.G id (.map (mputT j.ek k (mgetD j.ek k z es) es)))) else none
   | none=>none
  | _,_=>none
 | _,_,_=>none
def entryStoreA (s:St) (m st x:SV):Option (Bool × St):=match m,st,x with
 | .v (.map id),.v (.int .i64 n),.v v=>match nth s.G id with
  | some (.map es)=>some (decide (0≤n)&&decide (n.toNat < es.length),s.inG (setN s.G id (.map (setVal es n.toNat v))))
  | _=>none
 | _,_,_=>none
def famOp (E:Env) (f:FuncId) (s:St) (o:Oper):Option (Bool × St):=match o.dst with
 | some d=>if E.glb f (d+524288) then match o.op with
   | .call { callee:=.builtin .append,args,argTypes }=>match evL E s.slots args.toList,argTypes.toList with
    | some [.gsl id g off sz len,.list k szy (y :: ys)],[t,u]=>match E.ti t with
     | some i=>match i.k with
      | .sl elem esz _ ebytes (some z)=>match E.ti elem with
       | some j=>match j.k with
        | .sl e2 sz2 _ _ _=>match findFam s.G sz2 e2 0 with
         | some fid=>match famY fid sz2 (y :: ys) (famsOf s.G fid),nth s.G id with
          | some (ys',fs'),some (.gro es sz' e')=>
           if Nat.beq szy esz&&Nat.beq sz' esz&&Nat.beq e' elem&&Nat.beq sz esz&&Nat.beq t u&&Nat.ble 1 esz&&Nat.ble 1 ebytes&&Nat.beq z.cells.length esz&&z.notTup then
            some (decide (g=es.length)&&decide (off=0)&&decide (len=g)&&decide ((es.length+(y :: ys).length) * ebytes≤140737488355328),
             (s.inG (setN (setN s.G fid (.fam fs' sz2 e2)) id (.gro (es++ys') esz elem))).put o.dst (.v (.gsl id (es.length+(y :: ys).length) 0 esz (es.length+(y :: ys).length))))
           else none
          | _,_=>none
         | none=>none
        | _=>none
       | none=>none
      | _=>none
     | none=>none
    | _,_=>none
   | _=>none
  else none
 | none=>none
def famLk (E:Env) (f:FuncId) (s:St) (o:Oper):Option (Bool × St):=match o.dst with
 | some d=>if E.glb f (d+524288) then match o.op with
   | .lookup t m k ok=>match E.elg t,E.ti t,evO E s.slots m,evO E s.slots k with
    | some (.fam e sz p),some i,.v (.map id),.v k=>match i.k,nth s.G id with
     | .map kt _ (some (.list .nil _ [])),some (.map es)=>match E.ti kt,findFam s.G sz e 0 with
      | some j,some fid=>if j.ek.plain&&keyFits j.ek k then
        some (mkeys j.ek k es&&(Pat.fam fid sz p).fits (mgetD j.ek k (.list (.fam fid (famsOf s.G fid).length) sz []) es),
         (s.inG (setN s.G fid (.fam (famsOf s.G fid++[0]) sz e))).put o.dst (.v (if ok then .tup [(Pat.fam fid sz p).enc ((Pat.fam fid sz p).decD (mgetD j.ek k (.list (.fam fid (famsOf s.G fid).length) sz []) es)),.bool (mgetT j.ek k es).isSome]
          else (Pat.fam fid sz p).enc ((Pat.fam fid sz p).decD (mgetD j.ek k (.list (.fam fid (famsOf s.G fid).length) sz []) es)))))
       else none
      | _,_=>none
     | _,_=>none
    | _,_,_,_=>none
   | _=>none
  else none
 | none=>none
def groF (E:Env) (f:FuncId) (d:Option Tmp):Bool:=match d with
 | some d=>E.glb f (d+196608)
 | none=>false
def stepOp (E:Env) (f:FuncId) (s:St) (o:Oper):Option (Bool × St):=
 match o.op with
 | .move x=>match evO E s.slots x with
  | .v a=>some (true,s.put o.dst (.v a))
  | .lp k off=>some (true,s.put o.dst (.lp k off))
  | .none=>some (true,s.put o.dst .none)
 | .assign x=>match evO E s.slots x with
  | .v a=>some (true,s.put o.dst (.v a))
  | .lp k off=>some (true,s.put o.dst (.lp k off))
  | .none=>some (true,s.put o.dst .none)
 | .pick c a b=>match evO E s.slots c,evO E s.slots a,evO E s.slots b with
  | .v (.bool t),.v x,.v y=>some (true,s.put o.dst (.v (bmerge t x y)))
  | _,_,_=>none
 | .alloc e=>match E.ti e with
  | some i=>match i.zero with
   | some z=>if z.notTup then allocA E f s o.dst e z.cells else none
   | none=>none
  | none=>none
 | .box t x=>match evO E s.slots x with
  | .v v=>if v.notTup then allocA E f s o.dst t v.cells else none
  | _=>none
 | .build t parts=>match buildA E s t parts.toList with
  | some v=>some (true,s.put o.dst (.v v))
  | none=>none
 | .buildSlice t len parts=>match buildSliceA E s t len parts.toList with
  | some v=>some (true,s.put o.dst (.v v))
  | none=>none
 | .load t a=>match loadG E s t (evO E s.slots a) with
  | some (c,v)=>some (c,s.put o.dst (.v v))
  | none=>none
 | .store t a x=>match o.dst,storeG E s t (evO E s.slots a) (evO E s.slots x) with
  | none,some (c,s')=>some (c,s')
  | _,_=>none
 | .binOp op t x y _=>match evO E s.slots x,evO E s.slots y with
  | .v a,.v b=>match abin op a b with
   | some (c,v)=>some (c,s.put o.dst (.v v))
   | none=>match eqO E op t a b with
    | some r=>some (true,s.put o.dst (.v (.bool r)))
    | none=>none
  | _,_=>none
 | .unOp op _ x=>match op,evO E s.slots x with
  | .not,.v (.bool b)=>some (true,s.put o.dst (.v (.bool (!b))))
  | .neg,.v (.int k n)=>some (true,s.put o.dst (.v (.int k (k.wrap (0 - n)))))
  | _,_=>none
 | .convert a b x=>match convertA E s a b (evO E s.slots x) with
  | some (c,v)=>some (c,s.put o.dst (.v v))
  | none=>none
 | .nilCheck x=>match evO E s.slots x with
  | .v (.ptr id off)=>some (true,s.put o.dst (.v (.ptr id off)))
  | .lp k off=>some (true,s.put o.dst (.lp k off))
  | _=>none
 | .makeFunc (.func g) first captured=>match evL E s.slots first.toList,evL E s.slots captured.toList with
  | some x,some y=>some (true,s.put o.dst (.v (.fn g x y)))
  | _,_=>none
 | .fieldAddr t x j=>match fieldAddrA E t (evO E s.slots x) j with
  | some p=>some (true,s.put o.dst p)
  | none=>none
 | .field t x j=>match fieldA E t (evO E s.slots x) j with
  | some v=>some (true,s.put o.dst (.v v))
  | none=>none
 | .indexAddr t x ix=>match indexAddrA E t (evO E s.slots x) (evO E s.slots ix) with
  | some (c,p)=>some (c,s.put o.dst p)
  | none=>none
 | .index t x ix=>match indexA E t (evO E s.slots x) (evO E s.slots ix) with
  | some (c,v)=>some (c,s.put o.dst (.v v))
  | none=>none
 | .slice t x lo hi mx=>match optO E s.slots lo,optO E s.slots hi with
  | some l,some h=>match sliceA E t (evO E s.slots x) l h mx with
   | some (c,v)=>some (c,s.put o.dst (.v v))
   | none=>none
  | _,_=>none
 | .extract x i=>match evO E s.slots x with
  | .v (.tup vs)=>match nth vs i with
   | some v=>some (true,s.put o.dst (.v v))
   | none=>none
  | _=>none
 | .makeSlice t l c=>match E.ti t,evO E s.slots l,evO E s.slots c with
  | some i,.v (.int _ n),.v (.int _ m)=>match i.k with
   | .sl elem esz _ ebytes (some z)=>
    if Nat.beq z.cells.length esz&&Nat.ble 1 esz&&z.notTup then
     if groF E f o.dst then (if z.closed then some (decide (0≤n∧n≤m∧m≤140737488355328∧m * ebytes≤140737488355328),
      (s.addG (.gro (List.replicate n.toNat z) esz elem)).put o.dst (.v (.gsl s.G.length n.toNat 0 esz n.toNat))) else none)
     else some (decide (0≤n∧n≤m∧m≤140737488355328∧m * ebytes≤140737488355328),
      (s.addG (.row (cellsL (List.replicate m.toNat z)) elem)).put o.dst (.v (.msl s.G.length 0 esz n.toNat m.toNat)))
    else none
   | _=>none
  | _,_,_=>none
 | .lookup t m k ok=>match lookupA E s t (evO E s.slots m) (evO E s.slots k) with
  | some (v,b)=>some (true,s.put o.dst (.v (if ok then .tup [v,.bool b] else v)))
  | none=>none
 | .mapUpdate t m k x=>match o.dst,updateA E s t (evO E s.slots m) (evO E s.slots k) (evO E s.slots x) with
  | none,some s'=>some (true,s')
  | _,_=>none
 | .insert t m k x=>match o.dst,updateA E s t (evO E s.slots m) (evO E s.slots k) (evO E s.slots x) with
  | none,some s'=>some (true,s')
  | _,_=>none
 | .entry x=>match entryA E s (evO E s.slots x) with
  | some (c,v)=>some (c,s.put o.dst (.v v))
  | none=>none
 | .mapEntry t m k=>match mapEntryA E s t (evO E s.slots m) (evO E s.slots k) with
  | some (c,v,s')=>some (c,s'.put o.dst (.v v))
  | none=>none
 | .entryStore _ m st x=>match o.dst,entryStoreA s (evO E s.slots m) (evO E s.slots st) (evO E s.slots x) with
  | none,some (c,s')=>some (c,s')
  | _,_=>none
 | .range t x=>match E.ti t,evO E s.slots x with
  | some i,.v (.str l)=>match i.k with
   | .str=>some (true,(s.addG (.siter l 0)).put o.dst (.v (.ptr s.G.length 0)))
   | _=>none
  | some i,.v (.map id)=>match i.k,nth s.G id with
   | .map _ _ _,some (.map es)=>some (true,(s.addG (.mit id es.length (List.range es.length) none t)).put o.dst (.v (.ptr s.G.length 0)))
   | _,_=>none
  | _,_=>none
 | .next x true=>match nextA s o.dst (evO E s.slots x) with
  | some s'=>some (true,s')
  | none=>none
 | .makeMap _ none=>some (true,(s.addG (.map [])).put o.dst (.v (.map s.G.length)))
 | .call { callee:=.builtin b,args,argTypes }=>match famOp E f s o with
  | some r=>some r
  | none=>match evL E s.slots args.toList with
   | some l=>builtinA E s o.dst b l argTypes.toList
   | none=>none
 | _=>none
end Go.Am
namespace Go.Am
open Go
inductive TR where
 | nil0
 | full (f:Nat)
 | tok (f b c:Nat)
inductive RO where
 | none
 | nil0
 | blk (b:Nat)
 | tok (f b c:Nat)
 | fam (ts:List TR)
def RO.has:RO→Nat→Prop
 | .none,_=>False
 | .nil0,_=>False
 | .blk b,x=>x=b
 | .tok _ b _,x=>x=b
 | .fam ts,x=>∃ j f c,nth ts j=some (.tok f x c)
def ElOk (sz:Nat) (es:List AV):Prop:=∀ e∈es,e.cells.length=sz∧e.notTup=true∧e.closed=true
def ElOkG (sz:Nat) (es:List AV):Prop:=∀ e∈es,e.cells.length=sz∧e.notTup=true
theorem ElOk.g {sz:Nat} {es:List AV} (h:ElOk sz es):ElOkG sz es:=fun e he=>⟨(h e he).1,(h e he).2.1⟩
structure Realm where
 I:Nat→Nat→Prop
 obj:List RO
def LkTok (b o len cap:Nat):RO→Prop
 | .none=>True
 | .nil0=>False
 | .blk _=>False
 | .tok f b' c'=>len≤f∧(len=f→b=b'∧o=0∧cap=c')
 | .fam _=>False
def LkTR (b o len cap:Nat):TR→Prop
 | .nil0=>False
 | .full f=>len≤f∧(len=f→cap=len)
 | .tok f b' c'=>len≤f∧(len=f→b=b'∧o=0∧cap=c')
def LkFam (b o len cap j:Nat):RO→Prop
 | .none=>True
 | .nil0=>False
 | .blk _=>False
 | .tok _ _ _=>False
 | .fam ts=>∃ t,nth ts j=some t∧LkTR b o len cap t
def FamNil:RO→Prop
 | .none=>True
 | .nil0=>False
 | .blk _=>False
 | .tok _ _ _=>False
 | .fam _=>True
def OwnNil:RO→Prop
 | .none=>True
 | .nil0=>True
 | .blk _=>False
 | .tok f _ _=>1≤f
 | .fam _=>False
def GsOk (b o f off sz cap:Nat):RO→Prop
 | .none=>True
 | .nil0=>False
 | .blk _=>False
 | .tok f' b' c'=>f≤f'∧(f=f'→b=b'∧off+cap=c'∧(o=off * sz∨cap=0))
 | .fam _=>False
def GpOk (b o f i off sz:Nat):RO→Prop
 | .none=>True
 | .nil0=>False
 | .blk _=>False
 | .tok f' b' _=>f≤f'∧(f=f'→b=b'∧o=i * sz+off)
 | .fam _=>False
def LkOk (R:Realm) (k:LK) (b o len cap:Nat):Prop:=match k with
 | .nil=>False
 | .full=>cap=len
 | .opn=>True
 | .own id=>∃ ro,nth R.obj id=some ro∧LkTok b o len cap ro
 | .fam id j=>∃ ro,nth R.obj id=some ro∧LkFam b o len cap j ro
mutual
inductive Rel (R:Realm) (w:World):AV→Value→Prop
 | bool (b:Bool):Rel R w (.bool b) (.bool b)
 | int (k:IntKind) (n:Int):Rel R w (.int k n) (.int k n)
 | str (l:List UInt8):Rel R w (.str l) (.string ⟨⟨l⟩⟩)
 | agg {cs:List AV} {vs:List Value} (h:RelL R w cs vs) (h1:∀ v∈vs,v.oneCell'=true):Rel R w (.agg cs) (.agg ⟨vs⟩)
 | tup {cs:List AV} {vs:List Value} (h:RelL R w cs vs):Rel R w (.tup cs) (.tuple ⟨vs⟩)
 | nilp:Rel R w .nilp (.pointer none)
 | ptr {id off b:Nat} (h:nth R.obj id=some (.blk b)):Rel R w (.ptr id off) (.pointer (some ⟨b,off,none⟩))
 | ep {cs:List AV} {b o:Nat} (h:RelC R w b o cs):Rel R w (.ep cs) (.pointer (some ⟨b,o,none⟩))
 | lnil {sz:Nat}:Rel R w (.list .nil sz []) (.slice none 0 0)
 | lopn {sz:Nat}:Rel R w (.list .opn sz []) (.slice none 0 0)
 | lemp {sz:Nat} {a:Addr}:Rel R w (.list .opn sz []) (.slice (some a) 0 0)
 | lown {id sz:Nat} {ro:RO} (h:nth R.obj id=some ro) (ho:OwnNil ro):Rel R w (.list (.own id) sz []) (.slice none 0 0)
 | lfam {id j sz:Nat} {ro:RO} (h:nth R.obj id=some ro) (ho:FamNil ro):Rel R w (.list (.fam id j) sz []) (.slice none 0 0)
 | list {k:LK} {sz:Nat} {es:List AV} {b o len cap:Nat} (h:RelE R w b o sz es) (hl:len=es.length) (hc:len≤cap) (hk:LkOk R k b o len cap):Rel R w (.list k sz es) (.slice (some ⟨b,o,none⟩) len cap)
 | msl {id off sz len cap b:Nat} (h:nth R.obj id=some (.blk b)) (hc:len≤cap):Rel R w (.msl id off sz len cap) (.slice (some ⟨b,off,none⟩) len cap)
 | gnil {id sz:Nat} {ro:RO} (h:nth R.obj id=some ro) (ho:OwnNil ro):Rel R w (.gsl id 0 0 sz 0) (.slice none 0 0)
 | gsl {id f off sz len cap b o:Nat} {ro:RO} (h:nth R.obj id=some ro) (ho:GsOk b o f off sz cap ro) (hc:len≤cap):Rel R w (.gsl id f off sz len) (.slice (some ⟨b,o,none⟩) len cap)
 | gp {id f i off sz b o:Nat} {t:TypeId} {ro:RO} (h:nth R.obj id=some ro) (ho:GpOk b o f i off sz ro):Rel R w (.gp id f i off sz t) (.pointer (some ⟨b,o,none⟩))
 | nilm:Rel R w .nilm (.map none)
 | map {id b:Nat} (h:nth R.obj id=some (.blk b)):Rel R w (.map id) (.map (some b))
 | nilf:Rel R w .nilf .nilFunc
 | fn {f:FuncId} {xs ys:List AV} {vs us:List Value} (h:RelL R w xs vs) (h':RelL R w ys us):Rel R w (.fn f xs ys) (.func (.func f) ⟨vs⟩ ⟨us⟩)
 | yield {id b:Nat} (h:nth R.obj id=some (.blk b)):Rel R w (.yield id) (.func (.yield b) #[] #[])
 | nili:Rel R w .nili .nilIface
 | iface {t:TypeId} {v:AV} {c:Value} (h:Rel R w v c):Rel R w (.iface t v) (.iface t c)
inductive RelL (R:Realm) (w:World):List AV→List Value→Prop
 | nil:RelL R w [] []
 | cons {a:AV} {c:Value} {l:List AV} {cs:List Value} (h:Rel R w a c) (t:RelL R w l cs):RelL R w (a :: l) (c :: cs)
inductive RelE (R:Realm) (w:World):Nat→Nat→Nat→List AV→Prop
 | nil {b o sz:Nat}:RelE R w b o sz []
 | cons {b o sz:Nat} {e:AV} {es:List AV} (hl:e.cells.length=sz) (ht:e.notTup=true) (hk:e.closed=true) (h:RelC R w b o e.cells) (t:RelE R w b (o+sz) sz es):RelE R w b o sz (e :: es)
inductive RelC (R:Realm) (w:World):Nat→Nat→List AV→Prop
 | nil {b o:Nat}:RelC R w b o []
 | cons {b o:Nat} {a:AV} {c:Value} {l:List AV} (hc:w.cell? ⟨b,o,none⟩=some c) (h1:c.oneCell'=true) (hi:R.I b o) (h:Rel R w a c) (t:RelC R w b (o+1) l):RelC R w b o (a :: l)
end
def TrLe:TR→TR→Prop
 | .nil0,.nil0=>True
 | .nil0,.full _=>False
 | .nil0,.tok f _ _=>1≤f
 | .full _,.nil0=>False
 | .full f,.full f'=>f'=f
 | .full f,.tok f' _ _=>f < f'
 | .tok _ _ _,.nil0=>False
 | .tok _ _ _,.full _=>False
 | .tok f b c,.tok f' b' c'=>f≤f'∧(f'=f→b'=b∧c'=c)
theorem TrLe.refl (t:TR):TrLe t t:=by cases t <;> simp [TrLe]
theorem TrLe.trans {a b c:TR} (h:TrLe a b) (k:TrLe b c):TrLe a c:=by
 cases a <;> cases b <;> cases c <;> simp only [TrLe] at * <;> omega
def TsLe (ts ts':List TR):Prop:=∀ j t,nth ts j=some t→∃ t',nth ts' j=some t'∧TrLe t t'
theorem TsLe.refl (ts:List TR):TsLe ts ts:=fun _ t h=>⟨t,h,TrLe.refl t⟩
theorem TsLe.trans {a b c:List TR} (h:TsLe a b) (k:TsLe b c):TsLe a c:=fun j t hj=>
 let ⟨_,h1,h2⟩:=h j t hj
 let ⟨t2,k1,k2⟩:=k j _ h1
 ⟨t2,k1,h2.trans k2⟩
def RoLe:RO→RO→Prop
 | .none,r=>r=.none
 | .blk b,r=>r=.blk b
 | .nil0,.none=>True
 | .nil0,.nil0=>True
 | .nil0,.blk _=>False
 | .nil0,.tok f _ _=>1≤f
 | .tok _ _ _,.none=>True
 | .tok _ _ _,.nil0=>False
 | .tok _ _ _,.blk _=>False
 | .tok f b c,.tok f' b' c'=>f≤f'∧(f'=f→b'=b∧c'=c)
 | .nil0,.fam _=>False
 | .tok _ _ _,.fam _=>False
 | .fam _,.none=>True
 | .fam _,.nil0=>False
 | .fam _,.blk _=>False
 | .fam _,.tok _ _ _=>False
 | .fam ts,.fam ts'=>TsLe ts ts'
theorem RoLe.refl (r:RO):RoLe r r:=by cases r <;> simp [RoLe,TsLe.refl]
theorem RoLe.trans {a b c:RO} (h:RoLe a b) (k:RoLe b c):RoLe a c:=by
 cases a with
 | none=>simp only [RoLe] at h; subst h; exact k
 | blk x=>simp only [RoLe] at h; subst h; exact k
 | nil0=>
  cases b with
  | none=>simp only [RoLe] at k; subst k; trivial
  | nil0=>exact k
  | blk z=>exact h.elim
  | tok f' x' y'=>
   cases c with
   | none=>trivial
   | nil0=>exact k.elim
   | blk z=>exact k.elim
   | fam _=>exact k.elim
   | tok f'' x'' y''=>simp only [RoLe] at *; omega
  | fam _=>exact h.elim
 | tok f x y=>
  cases b with
  | none=>simp only [RoLe] at k; subst k; trivial
  | nil0=>exact h.elim
  | blk z=>exact h.elim
  | tok f' x' y'=>
   cases c with
   | none=>trivial
   | nil0=>exact k.elim
   | blk z=>exact k.elim
   | tok f'' x'' y''=>
    simp only [RoLe] at *
    refine ⟨Nat.le_trans h.1 k.1,fun e=>?_⟩
    obtain ⟨h1,h2⟩:=h; obtain ⟨k1,k2⟩:=k
    have e1:f'=f:=by omega
    have e2:f''=f':=by omega
    exact ⟨(k2 e2).1.trans (h2 e1).1,(k2 e2).2.trans (h2 e1).2⟩
   | fam _=>exact k.elim
  | fam _=>exact h.elim
 | fam ts=>
  cases b with
  | none=>simp only [RoLe] at k; subst k; trivial
  | nil0=>exact h.elim
  | blk z=>exact h.elim
  | tok f' x' y'=>exact h.elim
  | fam ts'=>
   cases c with
   | none=>trivial
   | nil0=>exact k.elim
   | blk z=>exact k.elim
   | tok f' x' y'=>exact k.elim
   | fam ts''=>exact TsLe.trans h k
def SameLoop (r r':Loop):Prop:=r'.tmps=r.tmps∧r'.params=r.params∧r'.assign=r.assign∧r'.body=r.body∧r'.defers=r.defers
def KeepLp (w w':World):Prop:=∀ (b:Nat) (r:Loop),w.heap[b]?=some (Obj.loop r)→∃ r',w'.heap[b]?=some (Obj.loop r')∧SameLoop r r'
theorem KeepLp.refl (w:World):KeepLp w w:=fun _ r h=>⟨r,h,rfl,rfl,rfl,rfl,rfl⟩
theorem KeepLp.trans {w w1 w2:World} (h:KeepLp w w1) (k:KeepLp w1 w2):KeepLp w w2:=fun b r hb=>
 let ⟨_,h1,h2,h3,h4,h5,h6⟩:=h b r hb
 let ⟨r2,k1,k2,k3,k4,k5,k6⟩:=k b _ h1
 ⟨r2,k1,k2.trans h2,k3.trans h3,k4.trans h4,k5.trans h5,k6.trans h6⟩
theorem KeepLp.old {w w':World} (h:∀ b,b < w.heap.size→w'.heap[b]?=w.heap[b]?):KeepLp w w':=fun b r hb=>
 ⟨r,(h b (by
  rcases Nat.lt_or_ge b w.heap.size with hlt | hge
  ·exact hlt
  ·rw [Array.getElem?_eq_none hge] at hb; cases hb)).trans hb,rfl,rfl,rfl,rfl,rfl⟩
structure Ext (R:Realm) (w:World) (R':Realm) (w':World):Prop where
 I:∀ b o,R.I b o→R'.I b o
 cell:∀ b o,R.I b o→w'.cell? ⟨b,o,none⟩=w.cell? ⟨b,o,none⟩
 obj:∀ id ro,nth R.obj id=some ro→∃ ro',nth R'.obj id=some ro'∧RoLe ro ro'
 lp:KeepLp w w'
theorem Ext.refl (R:Realm) (w:World):Ext R w R w:=⟨fun _ _ h=>h,fun _ _ _=>rfl,fun _ ro h=>⟨ro,h,RoLe.refl ro⟩,KeepLp.refl w⟩
theorem Ext.trans {R R' R'':Realm} {w w' w'':World} (h:Ext R w R' w') (k:Ext R' w' R'' w''):Ext R w R'' w'':=
 ⟨fun b o hi=>k.I b o (h.I b o hi),fun b o hi=>(k.cell b o (h.I b o hi)).trans (h.cell b o hi),fun id ro hr=>
  let ⟨_,h1,h2⟩:=h.obj id ro hr
  let ⟨r2,h3,h4⟩:=k.obj id _ h1
  ⟨r2,h3,h2.trans h4⟩,h.lp.trans k.lp⟩
theorem Ext.blk {R R':Realm} {w w':World} (h:Ext R w R' w') {id b:Nat} (hb:nth R.obj id=some (.blk b)):nth R'.obj id=some (.blk b):=by
 obtain ⟨r,h1,h2⟩:=h.obj id _ hb
 simp only [RoLe] at h2
 subst h2
 exact h1
theorem LkOk.mono {R R':Realm} {w w':World} (e:Ext R w R' w') {k:LK} {b o len cap:Nat} (h:LkOk R k b o len cap):LkOk R' k b o len cap:=by
 cases k with
 | nil=>exact h
 | full=>exact h
 | opn=>trivial
 | own id=>
  obtain ⟨ro,h1,h2⟩:=h
  obtain ⟨ro',h3,h4⟩:=e.obj id ro h1
  refine ⟨ro',h3,?_⟩
  cases ro with
  | none=>simp only [RoLe] at h4; subst h4; trivial
  | nil0=>exact h2.elim
  | blk x=>exact h2.elim
  | tok f x y=>
   cases ro' with
   | none=>trivial
   | nil0=>exact h4.elim
   | blk z=>exact h4.elim
   | tok f' x' y'=>
    simp only [RoLe,LkTok] at *
    refine ⟨by omega,fun e=>?_⟩
    have e1:f'=f:=by omega
    have h5:=h2.2 (by omega)
    have h6:=h4.2 e1
    exact ⟨h5.1.trans h6.1.symm,h5.2.1,h5.2.2.trans h6.2.symm⟩
   | fam _=>exact h4.elim
  | fam _=>exact h2.elim
 | fam id j=>
  obtain ⟨ro,h1,h2⟩:=h
  obtain ⟨ro',h3,h4⟩:=e.obj id ro h1
  refine ⟨ro',h3,?_⟩
  cases ro with
  | none=>simp only [RoLe] at h4; subst h4; trivial
  | nil0=>exact h2.elim
  | blk x=>exact h2.elim
  | tok _ _ _=>exact h2.elim
  | fam ts=>
   cases ro' with
   | none=>trivial
   | nil0=>exact h4.elim
   | blk z=>exact h4.elim
   | tok _ _ _=>exact h4.elim
   | fam ts'=>
    obtain ⟨t,k1,k2⟩:=h2
    obtain ⟨t',k3,k4⟩:=h4 j t k1
    refine ⟨t',k3,?_⟩
    cases t with
    | nil0=>exact k2.elim
    | full f=>
     cases t' with
     | nil0=>exact k4.elim
     | full f'=>simp only [TrLe,LkTR] at *; subst k4; exact k2
     | tok f' x' y'=>simp only [TrLe,LkTR] at *; exact ⟨by omega,fun e=>by omega⟩
    | tok f x y=>
     cases t' with
     | nil0=>exact k4.elim
     | full f'=>exact k4.elim
     | tok f' x' y'=>
      simp only [TrLe,LkTR] at *
      refine ⟨by omega,fun e=>?_⟩
      have e1:f'=f:=by omega
      have h5:=k2.2 (by omega)
      have h6:=k4.2 e1
      exact ⟨h5.1.trans h6.1.symm,h5.2.1,h5.2.2.trans h6.2.symm⟩
theorem OwnNil.mono {ro ro':RO} (h:OwnNil ro) (e:RoLe ro ro'):OwnNil ro':=by
 cases ro with
 | none=>simp only [RoLe] at e; subst e; trivial
 | nil0=>cases ro' <;> first | trivial | exact e.elim | exact e
 | blk _=>exact h.elim
 | tok f x y=>
  cases ro' with
  | none=>trivial
  | nil0=>exact e.elim
  | blk z=>exact e.elim
  | tok f' x' y'=>simp only [RoLe,OwnNil] at *; omega
  | fam _=>exact e.elim
 | fam _=>exact h.elim
theorem FamNil.mono {ro ro':RO} (h:FamNil ro) (e:RoLe ro ro'):FamNil ro':=by
 cases ro with
 | none=>simp only [RoLe] at e; subst e; trivial
 | nil0=>exact h.elim
 | blk _=>exact h.elim
 | tok _ _ _=>exact h.elim
 | fam ts=>
  cases ro' with
  | none=>trivial
  | nil0=>exact e.elim
  | blk z=>exact e.elim
  | tok _ _ _=>exact e.elim
  | fam ts'=>trivial
theorem GsOk.mono {b o f off sz cap:Nat} {ro ro':RO} (h:GsOk b o f off sz cap ro) (e:RoLe ro ro'):GsOk b o f off sz cap ro':=by
 cases ro with
 | none=>simp only [RoLe] at e; subst e; trivial
 | nil0=>exact h.elim
 | blk _=>exact h.elim
 | tok f1 x y=>
  cases ro' with
  | none=>trivial
  | nil0=>exact e.elim
  | blk z=>exact e.elim
  | tok f' x' y'=>
   simp only [RoLe,GsOk] at *
   refine ⟨by omega,fun k=>?_⟩
   obtain ⟨e1,e2⟩:=e.2 (by omega)
   obtain ⟨h1,h2,h3⟩:=h.2 (by omega)
   exact ⟨h1.trans e1.symm,h2.trans e2.symm,h3⟩
  | fam _=>exact e.elim
 | fam _=>exact h.elim
theorem GpOk.mono {b o f i off sz:Nat} {ro ro':RO} (h:GpOk b o f i off sz ro) (e:RoLe ro ro'):GpOk b o f i off sz ro':=by
 cases ro with
 | none=>simp only [RoLe] at e; subst e; trivial
 | nil0=>exact h.elim
 | blk _=>exact h.elim
 | tok f1 x y=>
  cases ro' with
  | none=>trivial
  | nil0=>exact e.elim
  | blk z=>exact e.elim
  | tok f' x' y'=>
   simp only [RoLe,GpOk] at *
   refine ⟨by omega,fun k=>?_⟩
   obtain ⟨e1,e2⟩:=e.2 (by omega)
   obtain ⟨h1,h2⟩:=h.2 (by omega)
   exact ⟨h1.trans e1.symm,h2⟩
  | fam _=>exact e.elim
 | fam _=>exact h.elim
mutual
theorem Rel.mono {R R':Realm} {w w':World} (e:Ext R w R' w'):∀ {a:AV} {c:Value},Rel R w a c→Rel R' w' a c
 | _,_,.bool b=>.bool b
 | _,_,.int k n=>.int k n
 | _,_,.str l=>.str l
 | _,_,.agg h h1=>.agg (h.mono e) h1
 | _,_,.tup h=>.tup (h.mono e)
 | _,_,.nilp=>.nilp
 | _,_,.ptr h=>.ptr (e.blk h)
 | _,_,.ep h=>.ep (h.mono e)
 | _,_,.lnil=>.lnil
 | _,_,.lopn=>.lopn
 | _,_,.lemp=>.lemp
 | _,_,.lown h ho=>let ⟨_,h3,h4⟩:=e.obj _ _ h; .lown h3 (ho.mono h4)
 | _,_,.lfam h ho=>let ⟨_,h3,h4⟩:=e.obj _ _ h; .lfam h3 (ho.mono h4)
 | _,_,.list h hl hc hk=>.list (h.mono e) hl hc (hk.mono e)
 | _,_,.msl h hc=>.msl (e.blk h) hc
 | _,_,.gnil h ho=>let ⟨_,h3,h4⟩:=e.obj _ _ h; .gnil h3 (ho.mono h4)
 | _,_,.gsl h ho hc=>let ⟨_,h3,h4⟩:=e.obj _ _ h; .gsl h3 (ho.mono h4) hc
 | _,_,.gp h ho=>let ⟨_,h3,h4⟩:=e.obj _ _ h; .gp h3 (ho.mono h4)
 | _,_,.nilm=>.nilm
 | _,_,.map h=>.map (e.blk h)
 | _,_,.nilf=>.nilf
 | _,_,.fn h h'=>.fn (h.mono e) (h'.mono e)
 | _,_,.yield h=>.yield (e.blk h)
 | _,_,.nili=>.nili
 | _,_,.iface h=>.iface (h.mono e)
theorem RelL.mono {R R':Realm} {w w':World} (e:Ext R w R' w'):∀ {l:List AV} {cs:List Value},RelL R w l cs→RelL R' w' l cs
 | _,_,.nil=>.nil
 | _,_,.cons h t=>.cons (h.mono e) (t.mono e)
theorem RelE.mono {R R':Realm} {w w':World} (e:Ext R w R' w'):∀ {b o sz:Nat} {l:List AV},RelE R w b o sz l→RelE R' w' b o sz l
 | _,_,_,_,.nil=>.nil
 | _,_,_,_,.cons hl ht hk h t=>.cons hl ht hk (h.mono e) (t.mono e)
theorem RelC.mono {R R':Realm} {w w':World} (e:Ext R w R' w'):∀ {b o:Nat} {l:List AV},RelC R w b o l→RelC R' w' b o l
 | _,_,_,.nil=>.nil
 | _,_,_,.cons hc h1 hi h t=>.cons ((e.cell _ _ hi).trans hc) h1 (e.I _ _ hi) (h.mono e) (t.mono e)
end
end Go.Am
namespace Go.Am
open Go
section lists
variable {α:Type}
theorem nth_eq (l:List α) (n:Nat):nth l n=l[n]?:=by
 induction l generalizing n with
 | nil=>simp [nth]
 | cons a l ih=>cases n <;> simp [nth,ih]
theorem setN_eq (l:List α) (n:Nat) (x:α):setN l n x=l.set n x:=by
 induction l generalizing n with
 | nil=>simp [setN]
 | cons a l ih=>cases n <;> simp [setN,ih]
theorem nth_lt {l:List α} {n:Nat} {x:α} (h:nth l n=some x):n < l.length:=by
 rw [nth_eq] at h
 exact (List.getElem?_eq_some_iff.1 h).1
theorem nth_setN_self {l:List α} {n:Nat} {x y:α} (h:nth l n=some y):nth (setN l n x) n=some x:=by
 have:=nth_lt h
 rw [nth_eq,setN_eq,List.getElem?_set_self this]
theorem nth_setN_ne {l:List α} {n m:Nat} {x:α} (h:n≠m):nth (setN l n x) m=nth l m:=by
 rw [nth_eq,setN_eq,nth_eq,List.getElem?_set_ne h]
theorem nth_setN {l:List α} {n m:Nat} {x y:α} (h:nth (setN l n x) m=some y):(n=m∧y=x∧m < l.length)∨(n≠m∧nth l m=some y):=by
 by_cases e:n=m
 ·subst e
  have hl:=nth_lt h
  rw [setN_eq,List.length_set] at hl
  rw [nth_eq,setN_eq,List.getElem?_set_self hl] at h
  exact .inl ⟨rfl,(Option.some.inj h).symm,hl⟩
 ·rw [nth_setN_ne e] at h
  exact .inr ⟨e,h⟩
@[simp] theorem length_setN (l:List α) (n:Nat) (x:α):(setN l n x).length=l.length:=by rw [setN_eq,List.length_set]
theorem nth_append_new (l:List α) (x:α):nth (l++[x]) l.length=some x:=by rw [nth_eq]; simp
theorem nth_append_old {l:List α} {n:Nat} {y x:α} (h:nth l n=some y):nth (l++[x]) n=some y:=by
 have:=nth_lt h
 rw [nth_eq] at *
 rw [List.getElem?_append_left this]
 exact h
theorem nth_append_inv {l:List α} {n:Nat} {y x:α} (h:nth (l++[x]) n=some y):nth l n=some y∨(n=l.length∧y=x):=by
 rw [nth_eq] at *
 by_cases e:n < l.length
 ·rw [List.getElem?_append_left e] at h; exact .inl h
 ·rw [List.getElem?_append_right (by omega)] at h
  have hl:=(List.getElem?_eq_some_iff.1 h).1
  simp at hl
  have:n - l.length=0:=by omega
  rw [this] at h
  simp at h
  exact .inr ⟨by omega,h.symm⟩
theorem setN_nth:∀ {l:List α} {n:Nat} {x:α},nth l n=some x→setN l n x=l
 | [],_,_,h=>by cases h
 | a :: l,0,x,h=>by cases h; rfl
 | a :: l,n+1,x,h=>by
  show a :: setN l n x=a :: l
  rw [setN_nth (show nth l n=some x from h)]
end lists
def loopOk (R:Realm) (w:World) (RelSL:Slots→Array Value→Prop) (busy:Bool) (pending:Option Code) (slots:Slots) (n:Nat) (params:List Tmp) (assign body:Code) (defers:Nat) (done:Bool) (b:Nat):Prop:=
 ∃ (r:Loop) (db:Nat),w.heap[b]?=some (.loop r)∧r.state=(if done then .done else if busy then .busy else .ready)∧r.pending=pending ∧
  RelSL slots r.tmps∧r.tmps.size=n∧r.params=⟨params⟩∧r.assign=assign∧r.body=body∧r.defers=db∧nth R.obj defers=some (.blk db)
def RelS (R:Realm) (w:World) (β:Nat→Nat):SV→Value→Prop
 | .none,_=>True
 | .v a,c=>Rel R w a c
 | .lp k off,c=>c=.pointer (some ⟨β k,off,none⟩)
def RelT (R:Realm) (w:World) (β:Nat→Nat) (slots:Slots) (tmps:Array Value):Prop:=
 ∀ i,lk slots i≠.none→∃ c,tmps[i]?=some c∧RelS R w β (lk slots i) c
def noLps:Slots→Bool
 | []=>true
 | .put _ (.lp _ _) :: _=>false
 | _ :: l=>noLps l
def RelM (R:Realm) (w:World):List (AV × AV)→List MapEntry→Prop
 | [],[]=>True
 | (k,v) :: l,e :: es=>Rel R w k e.key∧Rel R w v e.val∧RelM R w l es
 | _,_=>False
def TokAt (R:Realm) (w:World) (sz:Nat) (e:TypeId) (f:Nat):TR→Prop
 | .nil0=>f=0
 | .full f'=>f'=f
 | .tok f' b c=>f'=f∧∃ cur,w.heap[b]?=some (.cells cur e (0,0))∧f≤c∧c≤maxLen∧cur.size=c * sz∧∀ o,f * sz≤o→¬ R.I b o
def Apart (ts:List TR):Prop:=∀ i j f b c f' c',nth ts i=some (.tok f b c)→nth ts j=some (.tok f' b c')→i=j
def FamOk (R:Realm) (w:World) (sz:Nat) (e:TypeId) (fs:List Nat) (ts:List TR):Prop:=
 ts.length=fs.length∧Apart ts∧∀ j f t,nth fs j=some f→nth ts j=some t→TokAt R w sz e f t
def Stamps (ents:Array MapEntry) (clock:Nat):Prop:=clock=ents.size∧∀ (i:Nat) (e:MapEntry),ents.toList[i]?=some e→e.born=i
def MitOk (R:Realm) (w:World) (mid n:Nat) (left:List Nat) (cur:Option Nat) (b:Nat):Prop:=
 ∃ bm seen c0,nth R.obj mid=some (.blk bm)∧w.heap[b]?=some (.mapIter (some bm) n seen c0)∧(∀ i,i < n→(i∈left↔seen.contains i=false))∧(∀ i∈left,i < n)∧left.Nodup∧n≤c0∧∀ i,cur=some i→seen.back?=some i∧c0=n
def RepO (R:Realm) (w:World):GO→RO→Prop
 | .dead,.none=>True
 | .dead,.nil0=>True
 | .dead,.blk b=>b < w.heap.size
 | .dead,.tok _ b _=>b < w.heap.size
 | .dead,.fam ts=>∀ j f b c,nth ts j=some (.tok f b c)→b < w.heap.size
 | .fam fs sz e,.fam ts=>FamOk R w sz e fs ts
 | .mit mid n left cur _,.blk b=>MitOk R w mid n left cur b
 | .tok f _ _,.nil0=>f=0
 | .row cs el,.blk b=>∃ vs,w.heap[b]?=some (.cells ⟨vs⟩ el (0,0))∧RelL R w cs vs∧(∀ v∈vs,v.oneCell'=true)∧∀ o,¬ R.I b o
 | .tok f sz e,.tok f' b c=>f'=f∧∃ cur,w.heap[b]?=some (.cells cur e (0,0))∧f≤c∧c≤maxLen∧cur.size=c * sz∧∀ o,f * sz≤o→¬ R.I b o
 | .gro es _ _,.nil0=>es=[]
 | .gro es sz e,.tok f b c=>f=es.length∧ElOkG sz es∧∃ cur vs,w.heap[b]?=some (.cells cur e (0,0))∧f≤c∧c≤maxLen∧cur.size=c * sz∧(∀ o,¬ R.I b o)∧RelL R w (cellsL es) vs∧(∀ v∈vs,v.oneCell'=true)∧cur.toList.take (f * sz)=vs
 | .map es,.blk b=>∃ ents clock,w.heap[b]?=some (.map ents clock)∧RelM R w es ents.toList∧Stamps ents clock
 | .siter l pos,.blk b=>w.heap[b]?=some (.stringIter ⟨⟨l⟩⟩ pos)
 | .loop busy pending _ slots n params assign body defers done,.blk b=>loopOk R w (RelT R w (fun _=>0)) busy pending slots n params assign body defers done b∧noLps slots=true
 | .defers o,.blk b=>w.heap[b]?=some (.deferred (if o then some [] else none))
 | _,_=>False
def GlobOk (E:Env) (R:Realm) (w:World) (g:Nat) (cs:List AV):Prop:=
 RelC R w g 0 cs∧(E.gx g=true→R.I g cs.length∧w.cell? ⟨g,cs.length,none⟩=none)
theorem GlobOk.mono {E:Env} {R R':Realm} {w w':World} {g:Nat} {cs:List AV} (h:GlobOk E R w g cs) (e:Ext R w R' w'):GlobOk E R' w' g cs:=
 ⟨h.1.mono e,fun hx=>⟨e.I _ _ (h.2 hx).1,(e.cell _ _ (h.2 hx).1).trans (h.2 hx).2⟩⟩
structure RepG (E:Env) (R:Realm) (w:World) (G:List GO):Prop where
 len:R.obj.length=G.length
 obj:∀ id go ro,nth G id=some go→nth R.obj id=some ro→RepO R w go ro
 inj:∀ i j ri rj b,nth R.obj i=some ri→nth R.obj j=some rj→ri.has b→rj.has b→i=j
 wf:∀ b o,R.I b o→b < w.heap.size
 glob:∀ g cs,E.glob g=some cs→GlobOk E R w g cs
 lo:E.lo≤w.drawn
def Live (R:Realm) (b:Nat):Prop:=∃ id ro,nth R.obj id=some ro∧ro.has b
structure RepB (R:Realm) (w:World) (β:Nat→Nat) (boxes:Boxes):Prop where
 box:∀ k cs,lkB boxes k=some cs→(∃ vs el,w.heap[β k]?=some (.cells ⟨vs⟩ el (0,0))∧RelL R w cs vs∧(∀ v∈vs,v.oneCell'=true))∧(∀ o,¬ R.I (β k) o)∧¬ Live R (β k)
 inj:∀ k k' cs cs',lkB boxes k=some cs→lkB boxes k'=some cs'→β k=β k'→k=k'
def RelD (R:Realm):List Nat→List Deferred→Prop
 | [],[]=>True
 | id :: l,d :: ds=>(∃ b,nth R.obj id=some (.blk b)∧d={ target:=.collected b,args:=#[] })∧RelD R l ds
 | _,_=>False
structure Rep (E:Env) (R:Realm) (w:World) (β:Nat→Nat) (s:St) (a:Act):Prop where
 g:RepG E R w s.G
 b:RepB R w β s.boxes
 t:RelT R w β s.slots a.tmps
 n:a.tmps.size=s.n
 d:RelD R s.marks a.defers
def Own (R:Realm) (β:Nat→Nat) (boxes:Boxes) (b:Nat):Prop:=
 Live R b∨∃ k cs,lkB boxes k=some cs∧β k=b
structure Step (R:Realm) (w:World) (β:Nat→Nat) (bx:Boxes) (R':Realm) (w':World) (β':Nat→Nat) (bx':Boxes):Prop where
 ext:Ext R w R' w'
 os:w'.os=w.os
 tape:w'.tape=w.tape
 output:w'.output=w.output
 size:w.heap.size≤w'.heap.size
 keep:∀ b,b < w.heap.size→¬ Own R β bx b→w'.heap[b]?=w.heap[b]?
 own:∀ b,b < w.heap.size→Own R' β' bx' b→Own R β bx b
 im:∀ b o,R'.I b o→b < w.heap.size→¬ Own R β bx b→R.I b o
theorem Step.refl (R:Realm) (w:World) (β:Nat→Nat) (bx:Boxes):Step R w β bx R w β bx:=
 ⟨Ext.refl R w,rfl,rfl,rfl,Nat.le_refl _,fun _ _ _=>rfl,fun _ _ h=>h,fun _ _ h _ _=>h⟩
theorem Step.trans {R R1 R2:Realm} {w w1 w2:World} {β β1 β2:Nat→Nat} {x x1 x2:Boxes}
  (h:Step R w β x R1 w1 β1 x1) (k:Step R1 w1 β1 x1 R2 w2 β2 x2):Step R w β x R2 w2 β2 x2 where
 ext:=h.ext.trans k.ext
 os:=k.os.trans h.os
 tape:=k.tape.trans h.tape
 output:=k.output.trans h.output
 size:=Nat.le_trans h.size k.size
 keep:=fun b hb hn=>(k.keep b (Nat.lt_of_lt_of_le hb h.size) (fun ho=>hn (h.own b hb ho))).trans (h.keep b hb hn)
 own:=fun b hb ho=>h.own b hb (k.own b (Nat.lt_of_lt_of_le hb h.size) ho)
 im:=fun b o hi hb hn=>h.im b o (k.im b o hi (Nat.lt_of_lt_of_le hb h.size) (fun ho=>hn (h.own b hb ho))) hb hn
theorem RelS.mono {R R':Realm} {w w':World} {β:Nat→Nat} (e:Ext R w R' w') {x:SV} {c:Value} (h:RelS R w β x c):RelS R' w' β x c:=by
 cases x with
 | none=>trivial
 | v a=>exact Rel.mono e h
 | lp k off=>exact h
theorem beq_self (n:Nat):Nat.beq n n=true:=Nat.beq_refl n
theorem beq_ne {n m:Nat} (h:n≠m):Nat.beq n m=false:=by
 cases hb:Nat.beq n m with
 | true=>exact absurd (Nat.eq_of_beq_eq_true hb) h
 | false=>rfl
theorem lk_put_self (l:Slots) (d:Nat) (x:SV):lk (.put d x :: l) d=x:=by simp [lk]
theorem lk_put_ne {l:Slots} {d t:Nat} {x:SV} (h:d≠t):lk (.put d x :: l) t=lk l t:=by simp [lk,beq_ne h]
theorem lk_kill {l:Slots} {d t:Nat}:(lk (.kill d :: l) t=lk l t∧∀ k off,lk l t=.lp k off→k≠d)∨lk (.kill d :: l) t=.none:=by
 simp only [lk]
 cases h:lk l t with
 | none=>exact .inr rfl
 | v a=>exact .inl ⟨rfl,fun _ _ e=>by cases e⟩
 | lp k off=>
  by_cases hk:k=d
  ·subst hk
   exact .inr (by simp)
  ·exact .inl ⟨by simp [beq_ne hk],fun k' off' e=>by cases e; exact hk⟩
theorem lkB_self (l:Boxes) (d:Nat) (cs:List AV):lkB ((d,cs) :: l) d=some cs:=by simp [lkB]
theorem lkB_cons {l:Boxes} {d k:Nat} {cs cs':List AV} (h:lkB ((d,cs) :: l) k=some cs'):(d=k∧cs'=cs)∨(d≠k∧lkB l k=some cs'):=by
 by_cases e:d=k
 ·subst e
  rw [lkB_self] at h
  exact .inl ⟨rfl,(Option.some.inj h).symm⟩
 ·simp only [lkB,beq_ne e,cond_false] at h
  exact .inr ⟨e,h⟩
theorem lkB_all {l:Boxes} (h:l.all (fun p=>closedL p.2)=true) {k:Nat} {cs:List AV} (hk:lkB l k=some cs):closedL cs=true:=by
 induction l with
 | nil=>simp [lkB] at hk
 | cons x l ih=>
  obtain ⟨d,c⟩:=x
  simp only [List.all_cons,Bool.and_eq_true] at h
  rcases lkB_cons hk with ⟨_,rfl⟩ | ⟨_,hk⟩
  ·exact h.1
  ·exact ih h.2 hk
theorem RelT.put {R:Realm} {w:World} {β:Nat→Nat} {slots:Slots} {a:Act} (h:RelT R w β slots a.tmps) {d:Tmp} {x:SV} {c:Value} (hd:d < a.tmps.size) (hx:RelS R w β x c) :
  RelT R w β (.put d x :: slots) (a.put (some d) c).tmps:=by
 intro i hi
 by_cases e:d=i
 ·subst e
  rw [lk_put_self]
  exact ⟨c,by simp [Act.put,hd],hx⟩
 ·rw [lk_put_ne e] at hi ⊢
  obtain ⟨c',h1,h2⟩:=h i hi
  refine ⟨c',?_,h2⟩
  simp only [Act.put]
  rw [Array.getElem?_setIfInBounds_ne e]
  exact h1
theorem Rep.put {E:Env} {R:Realm} {w:World} {β:Nat→Nat} {s:St} {a:Act} (h:Rep E R w β s a) (dst:Option Tmp) {x:SV} {c:Value} (hx:RelS R w β x c) :
  Rep E R w β (s.put dst x) (a.put dst c):=by
 cases dst with
 | none=>exact h
 | some d=>
  simp only [St.put]
  cases hb:Nat.blt d s.n with
  | true=>
   have hd:d < a.tmps.size:=by rw [h.n]; exact Nat.le_of_ble_eq_true hb
   exact ⟨h.g,h.b,h.t.put hd hx,by simp [Act.put,h.n],h.d⟩
  | false=>
   have hd:¬ d < a.tmps.size:=by
    rw [h.n]
    intro hlt
    have:Nat.blt d s.n=true:=Nat.ble_eq_true_of_le hlt
    rw [this] at hb
    cases hb
   have he:a.put (some d) c=a:=by
    simp only [Act.put]
    rw [Array.setIfInBounds_eq_of_size_le (Nat.not_lt.1 hd)]
   rw [he]
   exact h
theorem ofConst0_rel {R:Realm} {w:World} {v:Value} {a:AV} (h:ofConst0 v=some a):Rel R w a v∧v.oneCell'=true:=by
 unfold ofConst0 at h
 split at h <;> cases h
 ·exact ⟨.bool _,rfl⟩
 ·exact ⟨.int _ _,rfl⟩
 ·rename_i s
  exact ⟨.str s.data.toList,rfl⟩
 ·exact ⟨.lnil,rfl⟩
 ·exact ⟨.nilp,rfl⟩
 ·exact ⟨.nilm,rfl⟩
 ·exact ⟨.nilf,rfl⟩
 ·exact ⟨.nili,rfl⟩
theorem ofConsts_rel {R:Realm} {w:World}:∀ {vs:List Value} {l:List AV},ofConsts vs=some l→RelL R w l vs∧∀ v∈vs,v.oneCell'=true
 | [],l,h=>by simp [ofConsts] at h; subst h; exact ⟨.nil,by simp⟩
 | v :: vs,l,h=>by
  unfold ofConsts at h
  split at h
  ·rename_i a r h1 h2
   cases h
   obtain ⟨k1,k2⟩:=ofConst0_rel (R:=R) (w:=w) h1
   obtain ⟨k3,k4⟩:=ofConsts_rel (R:=R) (w:=w) h2
   exact ⟨.cons k1 k3,by simp [k2]; exact k4⟩
  ·cases h
theorem ofConst_rel {R:Realm} {w:World} {v:Value} {a:AV} (h:ofConst v=some a):Rel R w a v:=by
 unfold ofConst at h
 split at h
 ·rename_i cs
  split at h
  ·rename_i l hl
   cases h
   obtain ⟨k1,k2⟩:=ofConsts_rel (R:=R) (w:=w) hl
   exact .agg (vs:=cs.toList) k1 k2
  ·cases h
 ·rename_i cs
  split at h
  ·rename_i l hl
   cases h
   obtain ⟨k1,_⟩:=ofConsts_rel (R:=R) (w:=w) hl
   exact .tup (vs:=cs.toList) k1
  ·cases h
 ·exact (ofConst0_rel h).1
theorem evO_rel {E:Env} {R:Realm} {w:World} {β:Nat→Nat} {s:St} {a:Act} (h:Rep E R w β s a) (x:Operand):RelS R w β (evO E s.slots x) (a.eval x):=by
 cases x with
 | tmp t=>
  simp only [evO,Act.eval]
  by_cases hn:lk s.slots t=.none
  ·rw [hn]; trivial
  ·obtain ⟨c,h1,h2⟩:=h.t t hn
   have:a.tmps.getD t undef=c:=by simp [Array.getD_eq_getD_getElem?,h1]
   rw [this]
   exact h2
 | const v=>
  simp only [evO,Act.eval]
  cases hc:ofConst v with
  | none=>trivial
  | some y=>exact ofConst_rel hc
 | global g=>
  simp only [evO,Act.eval]
  cases hg:E.glob g with
  | none=>trivial
  | some cs=>exact Rel.ep (h.g.glob g cs hg).1
 | func f=>exact Rel.fn .nil .nil
end Go.Am
