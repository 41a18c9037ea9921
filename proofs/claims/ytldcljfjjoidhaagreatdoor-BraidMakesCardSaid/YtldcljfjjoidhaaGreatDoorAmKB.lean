/- The abstract machine: values of a form. -/
import Derived.Test.YtldcljfjjoidhaaGreatDoorAmKA
import Derived.Laws.StructEq
import Derived.ChangeKeysEq
import Derived.IntWalk
set_option linter.all false
open Array renaming ext'→aby, range→abz
open Bool renaming and_eq_true→aao, true_and→abv, false_eq_true→abA, and_true→abP
open Go.Instr renaming sureAddr→abj, buildSlice→abp, indexAt→abq, fill→abE
open Go.Op renaming stringOp→abr, intCmp→abB, bytesLess→abG, intArith→abI, equalIn→abN
open Go.Result renaming andThen_ok→aad
open Go.Sem renaming run_bind→aau, run_pure→aaY
open List renaming replicate→abn, getElem?_eq_getElem→abo, mem_of_mem_take→abx, length_append→abC, mem_append→abH, getElem?_eq_none→abK, map→abL, mem_of_mem_drop→abM, map_cons→abQ, replicate_succ→abR
open Nat renaming le_of_ble_eq_true→aaB, eq_of_beq_eq_true→aaO, beq_eq→abi, beq→abt, add_mul→abu, beq_refl→abw, add_assoc→abD, add_zero→abF, mul_le_mul_right→abO, zero_mul→abT, succ_mul→abU
open Ne renaming symm→abJ
namespace Go.Am
open Go
theorem MK {a b:AV} (h:Jj a b=true):a=b:=by
 unfold Jj at h;split at h
 all_goals (first|(cases h; done) | skip)
 all_goals (try simp only [aao,beq_iff_eq,abi] at h)
 all_goals (simp [*])
mutual
theorem kB:∀ {a b:AV},fa a b=true→a=b:=by
 intro a b h;unfold fa at h;split at h
 ·simp only [aao,abi] at h; rw [h.1.1,gY h.1.2,gY h.2]
 ·rw [gY h]
 ·rw [gY h]
 ·rw [gY h]
 ·simp only [aao,abi] at h; rw [h.1,gY h.2]
 ·simp only [aao,abi] at h; rw [h.1,gY h.2]
 ·simp only [aao,abi] at h; rw [h.1,gY h.2]
 ·simp only [aao,abi] at h; rw [h.1.1,h.1.2,gY h.2]
 ·simp only [aao,abi] at h; rw [h.1.1.1,h.1.1.2,h.1.2,gY h.2]
 ·exact MK h
theorem gY:∀ {l r:List AV},jo l r=true→l=r:=by
 intro l r h;unfold jo at h;split at h
 ·rfl
 ·rw [aao] at h; rw [kB h.1,gY h.2]
 ·cases h
end
def Dy (a b:AV):Prop:=∀ (R:ak) (w:World) (c:Value),Rel R w a c→Rel R w b c
def de:List AV→List AV→Prop
 |[],[]=>True
 |a :: l,b :: r=>Dy a b∧de l r
 |_,_=>False
theorem Dy.refl (a:AV):Dy a a:=fun _ _ _ h=>h
theorem de.refl:∀ l:List AV,de l l
 |[]=>trivial
 |a :: l=>⟨Dy.refl a,de.refl l⟩
theorem de.length:∀ {l r:List AV},de l r→l.length=r.length
 |[],[],_=>rfl
 |_ :: _,_ :: _,h=>by simp [de.length h.2]
 |[],_ :: _,h=>h.elim
 |_ :: _,[],h=>h.elim
theorem de.rel {R:ak} {w:World}:∀ {l r:List AV} {cs:List Value},de l r→aP R w l cs→aP R w r cs
 |[],[],_,_,h=>h
 |_ :: _,_ :: _,_,k,.cons h t=>.cons (k.1 _ _ _ h) (de.rel k.2 t)
 |[],_ :: _,_,h,_=>h.elim
 |_ :: _,[],_,h,_=>h.elim
theorem de.ML {R:ak} {w:World}:∀ {l r:List AV} {b o:Nat},de l r→fk R w b o l→fk R w b o r
 |[],[],_,_,_,_=>.nil
 |_ :: _,_ :: _,_,_,k,.cons hc h1 hi h t=>.cons hc h1 hi (k.1 _ _ _ h) (de.ML k.2 t)
 |[],_ :: _,_,_,h,_=>h.elim
 |_ :: _,[],_,_,h,_=>h.elim
theorem de.append:∀ {a b c d:List AV},de a b→de c d→de (a++c) (b++d)
 |[],[],_,_,_,h=>h
 |_ :: _,_ :: _,_,_,k,h=>⟨k.1,de.append k.2 h⟩
 |[],_ :: _,_,_,h,_=>h.elim
 |_ :: _,[],_,_,h,_=>h.elim
structure j7 (v u:AV):Prop where
 jc:Dy v u
 bu:u.ba=v.ba
 cells:v.ba=true→de v.cells u.cells
 closed:v.closed=true→u.closed=true
theorem yk {u v a:AV} (h:(aO.two u v).fits a=true):(aO.two u v).enc ((aO.two u v).bC a)=a:=by
 change (fa a u || fa a v)=true at h;change (bif fa a v then v else u)=a;cases hs:fa a v with
 |true=>exact (kB hs).symm
 |false=>
  rw [hs,Bool.or_false] at h;exact (kB h).symm
theorem j7.refl (v:AV):j7 v v:=⟨Dy.refl v,rfl,fun _=>de.refl _,fun h=>h⟩
theorem Hr {a b:IntKind} (h:XF a b=true):a=b:=of_decide_eq_true h
theorem tS {α:Type} {f:AV→Bool} {d:AV→α} {g:α→AV} (Jn:∀ v,f v=true→j7 v (g (d v))) {R:ak} {w:World} :
  ∀ {es:List AV} {b o sz:Nat},allFit f es=true→iu R w b o sz es→iu R w b o sz ((es.map d).map g)
 |[],b,o,sz,_,_=>.nil
 |e :: es,b,o,sz,h,hr=>by
  simp only [allFit,aao] at h;cases hr with
  |cons hl ht hk hc t=>
   have d':=Jn e h.1;have wc:=d'.cells ht;exact .cons (by rw [← wc.length,hl]) (by rw [d'.bu,ht]) (d'.closed hk) (wc.ML hc) (tS Jn h.2 t)
theorem KW {R:ak} {w:World} {b o sz bT:Nat} {es:List AV} (h:es=[]∨sz=bT) (hr:iu R w b o bT es):iu R w b o sz es:=by
 rcases h with rfl|rfl
 ·exact .nil
 ·exact hr
theorem KX {α:Type} {f:AV→Bool} {d:AV→α} {g:α→AV} (Jn:∀ v,f v=true→j7 v (g (d v))) {k:LK} {sz bT:Nat} {es:List AV} (hs:es=[]∨sz=bT) (h:allFit f es=true) :
  Dy (.list k bT es) (.list .lM sz ((es.map d).map g)):=fun R w c hr=>by
 cases hr with
 |mb=>exact .j9
 |j9=>exact .j9
 |oW=>exact .oW
 |oa _ _=>exact .j9
 |oX _ _=>exact .j9
 |list hr hlen hc hk=>exact .list (tS Jn h (KW hs hr)) (by simp [hlen]) hc trivial
theorem MM {α:Type} {f:AV→Bool} {d:AV→α} {g:α→AV} (Jn:∀ v,f v=true→j7 v (g (d v))) {id sz:Nat} {es:List AV} (h:allFit f es=true) :
  Dy (.list (.own id) sz es) (.list (.own id) sz ((es.map d).map g)):=fun R w c hr=>by
 cases hr with
 |oa h1 h2=>exact .oa h1 h2
 |list hr hlen hc hk=>exact .list (tS Jn h hr) (by simp [hlen]) hc hk
theorem MN {α:Type} {f:AV→Bool} {d:AV→α} {g:α→AV} (Jn:∀ v,f v=true→j7 v (g (d v))) {id j sz:Nat} {es:List AV} (h:allFit f es=true) :
  Dy (.list (.bF id j) sz es) (.list (.bF id j) sz ((es.map d).map g)):=fun R w c hr=>by
 cases hr with
 |oX h1 h2=>exact .oX h1 h2
 |list hr hlen hc hk=>exact .list (tS Jn h hr) (by simp [hlen]) hc hk
mutual
theorem aO.dL:∀ (p:aO) {v:AV},p.fits v=true→j7 v (p.enc (p.bC v))
 |.int k,v,h=>by
  cases v with
  |int k' n=>
   have hk:XF k k'=true:=h;rw [Hr hk];exact j7.refl _
  |_=>cases h
 |.bool,v,h=>by
  cases v with
  |bool b=>exact j7.refl _
  |_=>cases h
 |.str,v,h=>by
  cases v with
  |str b=>exact j7.refl _
  |_=>cases h
 |.agg ps,v,h=>by
  cases v with
  |agg cs=>
   obtain ⟨h1,h2⟩:=ps.dL (show ps.fits cs=true from h);exact ⟨fun R w c hr=>by cases hr with | agg hr xJ=>exact .agg (h1.rel hr) xJ,rfl,fun _=>h1,fun hc=>by
    have yl:bg cs=true:=by simpa [AV.closed] using hc
    show AV.closed (.agg (ps.enc (ps.bC cs)))=true;simp only [AV.closed]; exact h2 yl⟩
  |_=>cases h
 |.bu ps,v,h=>by
  cases v with
  |bu cs=>
   obtain ⟨h1,h2⟩:=ps.dL (show ps.fits cs=true from h);exact ⟨fun R w c hr=>by cases hr with | bu hr=>exact .bu (h1.rel hr),rfl,fun hn=>by simp [AV.ba] at hn,fun hc=>by
    have yl:bg cs=true:=by simpa [AV.closed] using hc
    show AV.closed (.bu (ps.enc (ps.bC cs)))=true;simp only [AV.closed]; exact h2 yl⟩
  |_=>cases h
 |.list sz p,v,h=>by
  cases v with
  |list k bT es=>
   have hb:((abt sz bT || es.isEmpty)&&allFit p.fits es)=true:=h;simp only [aao,Bool.or_eq_true,abi,List.isEmpty_iff] at hb;have hw:=KX (k:=k) (fun v=>p.dL) hb.1.symm hb.2;exact ⟨hw,rfl,fun _=>⟨hw,trivial⟩,fun _=>rfl⟩
  |_=>cases h
 |.own id sz p,v,h=>by
  cases v with
  |list k bT es=>
   cases k with
   |own kV=>
    have hb:((abt id kV&&abt sz bT)&&allFit p.fits es)=true:=h;simp only [aao,abi] at hb;obtain ⟨⟨rfl,rfl⟩,hf⟩:=hb;have hw:=MM (id:=id) (sz:=sz) (fun v=>p.dL) hf;exact ⟨hw,rfl,fun _=>⟨hw,trivial⟩,fun hc=>by simp [AV.closed,LK.closed] at hc⟩
   |_=>cases h
  |_=>cases h
 |.bF id sz p,v,h=>by
  cases v with
  |list k bT es=>
   cases k with
   |bF kV j=>
    have hb:((abt id kV&&abt sz bT)&&allFit p.fits es)=true:=h;simp only [aao,abi] at hb;obtain ⟨⟨rfl,rfl⟩,hf⟩:=hb;have hw:=MN (id:=id) (j:=j) (sz:=sz) (fun v=>p.dL) hf;exact ⟨hw,rfl,fun _=>⟨hw,trivial⟩,fun hc=>by simp [AV.closed,LK.closed] at hc⟩
   |_=>cases h
  |_=>cases h
 |.dO u,v,h=>by
  have:=kB (show fa v u=true from h);subst this;exact j7.refl _
 |.two u v,a,h=>by
  have hv:(aO.two u v).enc ((aO.two u v).bC a)=a:=yk h;rw [hv];exact j7.refl _
theorem aQ.dL:∀ (ps:aQ) {l:List AV},ps.fits l=true→de l (ps.enc (ps.bC l))∧(bg l=true→bg (ps.enc (ps.bC l))=true)
 |.nil,l,h=>by
  cases l with
  |nil=>exact ⟨trivial,fun h=>h⟩
  |cons _ _=>cases h
 |.cons p .nil,l,h=>by
  match l,h with
  |[],h=>cases h
  |a :: l,h=>
   have h':(p.fits a&&l.isEmpty)=true:=h;simp only [aao,List.isEmpty_iff] at h';obtain ⟨h1,rfl⟩:=h';have d:=p.dL h1;exact ⟨⟨d.jc,trivial⟩,fun hc=>by
    simp only [bg,abP] at hc;show bg [p.enc (p.bC a)]=true;simp only [bg,abP];exact d.closed hc⟩
 |.cons p (.cons q ps),l,h=>by
  cases l with
  |nil=>cases h
  |cons a l=>
   have h':(p.fits a&&(aQ.cons q ps).fits l)=true:=h;rw [aao] at h';have d:=p.dL h'.1;obtain ⟨k1,k2⟩:=(aQ.cons q ps).dL h'.2;exact ⟨⟨d.jc,k1⟩,fun hc=>by
    simp only [bg,aao] at hc;show bg (p.enc (p.bC a) :: (aQ.cons q ps).enc ((aQ.cons q ps).bC l))=true;simp only [bg,aao];exact ⟨d.closed hc.1,k2 hc.2⟩⟩
end
theorem aO.sT (p:aO) {v:AV} {x:p.T} (h:p.dec v=some x):j7 v (p.enc x):=by
 unfold aO.dec at h;cases hf:p.fits v with
 |true=>rw [hf] at h; cases h; exact p.dL hf
 |false=>rw [hf] at h; cases h
theorem aQ.sT (ps:aQ) {l:List AV} {x:ps.T} (h:ps.dec l=some x):de l (ps.enc x)∧(bg l=true→bg (ps.enc x)=true):=by
 unfold aQ.dec at h;cases hf:ps.fits l with
 |true=>rw [hf] at h; cases h; exact ps.dL hf
 |false=>rw [hf] at h; cases h
mutual
def aO.plain:aO→Bool
 |.agg ps=>ps.plain
 |.bu ps=>ps.plain
 |.list _ p=>p.plain
 |.own _ _ p=>p.plain
 |.bF _ _ p=>p.plain
 |.dO v=>fa v v
 |.two u v=>fa u u&&fa v v&&!fa u v
 |_=>true
def aQ.plain:aQ→Bool
 |.nil=>true
 |.cons p ps=>p.plain&&ps.plain
end
theorem pc {α:Type} {f:AV→Bool} {g:α→AV} (h:∀ x,f (g x)=true):∀ xs:List α,allFit f (xs.map g)=true
 |[]=>rfl
 |x :: xs=>by simp only [abQ,allFit,h x,pc h xs,Bool.and_self]
theorem ym {α:Type} {d:AV→α} {g:α→AV} (h:∀ x,d (g x)=x):∀ xs:List α,(xs.map g).map d=xs
 |[]=>rfl
 |x :: xs=>by simp only [abQ,h x,ym h xs]
mutual
theorem aO.bI:∀ (p:aO) (x:p.T),p.plain=true→p.fits (p.enc x)=true∧p.bC (p.enc x)=x
 |.int k,x,_=>⟨decide_eq_true rfl,rfl⟩
 |.bool,x,_=>⟨rfl,rfl⟩
 |.str,x,_=>⟨rfl,rfl⟩
 |.agg ps,x,h=>ps.bI x h
 |.bu ps,x,h=>ps.bI x h
 |.list sz p,x,h=>by
  refine ⟨?_,ym (fun y=>(p.bI y h).2) x⟩;change ((abt sz sz || (abL p.enc x).isEmpty)&&allFit p.fits (abL p.enc x))=true;rw [abw,Bool.true_or,abv];exact pc (fun y=>(p.bI y h).1) x
 |.own id sz p,x,h=>by
  refine ⟨?_,ym (fun y=>(p.bI y h).2) x⟩;change ((abt id id&&abt sz sz)&&allFit p.fits (abL p.enc x))=true;rw [abw,abw,abv,abv];exact pc (fun y=>(p.bI y h).1) x
 |.bF id sz p,(x:Nat × List p.T),h=>by
  refine ⟨?_,?_⟩
  ·change ((abt id id&&abt sz sz)&&allFit p.fits (abL p.enc x.2))=true;rw [abw,abw,abv,abv];exact pc (fun y=>(p.bI y h).1) x.2
  ·change (x.1,(abL p.enc x.2).map p.bC)=x;rw [ym (fun y=>(p.bI y h).2) x.2]
 |.dO v,x,h=>⟨h,rfl⟩
 |.two u v,(x:Bool),h=>by
  change (fa u u&&fa v v&&!fa u v)=true at h;simp only [aao,Bool.not_eq_true'] at h;obtain ⟨⟨h1,h2⟩,h3⟩:=h;cases x
  ·exact ⟨by change (fa u u || fa u v)=true; rw [h1]; rfl,h3⟩
  ·exact ⟨by change (fa v u || fa v v)=true; rw [h2,Bool.or_true],h2⟩
theorem aQ.bI:∀ (ps:aQ) (x:ps.T),ps.plain=true→ps.fits (ps.enc x)=true∧ps.bC (ps.enc x)=x
 |.nil,x,_=>⟨rfl,rfl⟩
 |.cons p .nil,x,h=>by
  have h':(p.plain&&true)=true:=h;rw [abP] at h';have:=p.bI x h';exact ⟨by change (p.fits (p.enc x)&&true)=true; rw [this.1]; rfl,this.2⟩
 |.cons p (.cons q ps),x,h=>by
  have h':(p.plain&&(aQ.cons q ps).plain)=true:=h;rw [aao] at h';have h1:=p.bI x.1 h'.1;have h2:=(aQ.cons q ps).bI x.2 h'.2;refine ⟨?_,?_⟩
  ·change (p.fits (p.enc x.1)&&(aQ.cons q ps).fits ((aQ.cons q ps).enc x.2))=true;rw [h1.1,h2.1];rfl
  ·change (p.bC (p.enc x.1),(aQ.cons q ps).bC ((aQ.cons q ps).enc x.2))=x;rw [h1.2,h2.2];rfl
end
end Go.Am
namespace Go.Am
open Go
theorem cJ (E:Env) {t:TypeId} {i:TI} (h:E.ti t=some i) :
  ∃ je u,E.P.info? t=some je∧E.P.underlying t=some u∧je.size=i.size∧kX u=i.agg∧sf E.P u=some i.k∧ij je=i.zero:=by
 have h1:=E.KQ t i h;unfold KP at h1;split at h1
 ·rename_i je u h2 h3;split at h1
  ·rename_i k hk;cases h1;exact ⟨je,u,h2,h3,rfl,rfl,hk,rfl⟩
  ·cases h1
 ·cases h1
section runs
variable {P:Program} (w:World)
theorem Ch {t:TypeId} {u:TypeDesc} (h:P.underlying t=some u):(isAgg t).run P w=.ok (kX u) w:=by
 unfold isAgg;simp only [aau,run_underlying h,aad];cases u <;> rfl
theorem run_sizeOf {t:TypeId} {i:TypeInfo} (h:P.info? t=some i):(sizeOf t).run P w=.ok i.size w:=by
 simp [sizeOf,typeInfo,h]
theorem iQ {t:TypeId} {i:TypeInfo} {z:Value} (h:P.info? t=some i) (hz:i.zero=some z):(zeroValue t).run P w=.ok z w:=by
 simp [zeroValue,typeInfo,h,hz]
theorem za (t:TypeId) (v:Value):(newVar t v).run P w=.ok ⟨w.heap.size,0,none⟩ (w.alloc (.cells v.cells t)):=by
 simp only [newVar,newRow,aau,run_newObj,aad,aaY];rfl
end runs
theorem zb {R:ak} {w:World} {ag:Bool} {l:List AV} {v:AV} {vs:List Value} (hm:vk ag l=some v) (h:aP R w l vs) (h1:∀ x∈vs,x.oneCell'=true) :
  (ag=true→Rel R w v (.agg ⟨vs⟩))∧(ag=false→∃ c,vs=[c]∧Rel R w v c):=by
 unfold vk at hm;cases ag with
 |true=>
  simp at hm;subst hm;exact ⟨fun _=>.agg h h1,fun e=>by cases e⟩
 |false=>
  refine ⟨(fun e=>by cases e),fun _=>?_⟩;simp only [abA,if_false] at hm;split at hm
  ·cases hm;cases h with
   |cons h t=>
    cases t;exact ⟨_,rfl,h⟩
  ·cases hm
theorem qm {E:Env} {R:ak} {w:World} {t:TypeId} {i:TI} (hi:E.ti t=some i) {b off:Nat} {l:List AV} {vs:List Value} {v:AV}
  (hl:l.length=i.size) (hr:aP R w l vs) (h1:∀ x∈vs,x.oneCell'=true) (hc:∀ j x,vs[j]?=some x→w.cell? ⟨b,off+j,none⟩=some x) (hm:vk i.agg l=some v) :
  ∃ c,(loadVar t ⟨b,off,none⟩).run E.P w=.ok c w∧Rel R w v c:=by
 obtain ⟨je,u,e1,e2,e3,e4,_⟩:=cJ E hi;obtain ⟨m1,m2⟩:=zb hm hr h1;unfold loadVar;simp only [aau,Ch w e2,aad,e4];cases ha:i.agg with
 |true=>
  refine ⟨.agg ⟨vs⟩,?_,m1 ha⟩;have hlen:je.size=vs.length:=by rw [e3,← hl,hr.length]
  have:=run_loadCells_list (P:=E.P) w ⟨b,off,none⟩ vs (fun j x hx=>by rw [cZ]; exact hc j x hx);simp [run_sizeOf w e1,hlen,this]
 |false=>
  obtain ⟨c,rfl,fF⟩:=m2 ha;refine ⟨c,?_,fF⟩;have:=hc 0 c (by simp);simp only [abF] at this;simp [run_load,this]
theorem kC {w:World} {b:Nat} {vs:List Value} {el:TypeId} {fr:Nat × Nat} (h:w.heap[b]?=some (.cells ⟨vs⟩ el fr)) (j:Nat):w.cell? ⟨b,j,none⟩=vs[j]?:=by
 simp [World.cell?,h]
theorem wL {E:Env} {R:ak} {w:World} {β:Nat→Nat} {s:St} {a:Act} (h:bq E R w β s a) {p:SV} {c:Value} (hp:si R w β p c) {cs:List AV} {off:Nat} (hc:oQ s p=some (cs,off)) :
  ∃ b o vs,c=.pointer (some ⟨b,o+off,none⟩)∧aP R w cs vs∧(∀ x∈vs,x.oneCell'=true)∧∀ j x,vs[j]?=some x→w.cell? ⟨b,o+j,none⟩=some x:=by
 unfold oQ at hc;split at hc
 ·rename_i k gX;split at hc
  ·rename_i cs' hk;cases hc;obtain ⟨⟨vs,el,h1,h2,h3⟩,_⟩:=h.b.box k cs hk;exact ⟨β k,0,vs,by rw [hp]; simp,h2,h3,fun j x hx=>by rw [kC h1]; simpa using hx⟩
  ·cases hc
 ·rename_i id gX;split at hc
  ·rename_i cs' hk;cases hc;cases hp with
   | @ptr _ _ b hb=>
    obtain ⟨vs,h1,h2,h3,_⟩:=h.g.obj id _ _ hk hb;exact ⟨b,0,vs,by simp,h2,h3,fun j x hx=>by rw [kC h1]; simpa using hx⟩
  ·cases hc
 ·rename_i cs';cases hc;cases hp with
  |ep hr=>
   obtain ⟨vs,h1,h2,h3,_⟩:=hr.get;exact ⟨_,_,vs,rfl,h1,h2,h3⟩
 ·cases hc
theorem rI {R:ak} {w:World} {off n:Nat} {cs l:List AV} {vs:List Value} (hs:Ji off n cs=some l) (h:aP R w cs vs) (h1:∀ x∈vs,x.oneCell'=true) :
  l.length=n∧aP R w l ((vs.drop off).take n)∧(∀ x∈(vs.drop off).take n,x.oneCell'=true)∧∀ j x,((vs.drop off).take n)[j]?=some x→vs[off+j]?=some x:=by
 obtain ⟨e1,e2⟩:=XM hs;subst e1;refine ⟨e2,(h.drop off).take n,fun x hx=>h1 x (abM (abx hx)),fun j x hx=>?_⟩;rw [List.getElem?_take] at hx;split at hx
 ·rwa [List.getElem?_drop] at hx
 ·cases hx
def cz (E:Env) (R:ak) (w:World) (β:Nat→Nat) (s:St) (a:Act) (o:Oper) (s':St):Prop:=
 ∃ nx x w' R' β',(execOp a.eval o).run E.P w=.ok nx w'∧(nx=.value x∨(nx=.skip∧x=undef))∧bq E R' w' β' s' (a.put o.dst x)∧Step R w β s.boxes R' w' β' s'.boxes
section ops
variable {E:Env} {R:ak} {w:World} {β:Nat→Nat} {s:St} {a:Act} {o:Oper}
@[simp] theorem bf (s:St) (d:Option Tmp) (x:SV):(s.put d x).boxes=s.boxes:=by
 cases d with
 |none=>rfl
 |some d=>simp only [St.put]; split <;> rfl
theorem ap (h:bq E R w β s a) {c:Value} {sv:SV} (hx:(execOp a.eval o).run E.P w=.ok (.value c) w) (hr:si R w β sv c):cz E R w β s a o (s.put o.dst sv):=
 ⟨.value c,c,w,R,β,hx,.inl rfl,h.put o.dst hr,by rw [bf]; exact Step.refl R w β s.boxes⟩
theorem Hs {t:Bool} {x y:AV} {c d:Value} (hx:Rel R w x c) (hy:Rel R w y d):Rel R w (Du t x y) (if t=true then c else d):=by
 unfold Du;split
 ·cases hx; cases hy; cases t <;> exact .bool _
 ·cases hx; cases hy;split
  ·rename_i e; subst e; cases t <;> exact .int _ _
  ·cases t <;> exact .int _ _
 ·cases t
  ·exact hy
  ·exact hx
theorem lN (h:bq E R w β s a) (x:Operand) (ho:o.op=.move x∨o.op=.assign x) {y:SV} (hy:bQ E s.ab x=y):cz E R w β s a o (s.put o.dst y):=by
 subst hy;refine ap h (c:=a.eval x) ?_ (aY h x);rcases ho with ho|ho <;> simp [execOp,ho]
theorem KY (h:bq E R w β s a) (c x y:Operand) (ho:o.op=.pick c x y) {t:Bool} {p q:AV} (h1:bQ E s.ab c=.v (.bool t)) (h2:bQ E s.ab x=.v p) (h3:bQ E s.ab y=.v q) :
  cz E R w β s a o (s.put o.dst (.v (Du t p q))):=by
 have r1:=aY h c;have r2:=aY h x;have r3:=aY h y;rw [h1] at r1; rw [h2] at r2; rw [h3] at r3;refine ap h (c:=if t=true then a.eval x else a.eval y) ?_ (Hs r2 r3);have r1':Rel R w (.bool t) (a.eval c):=r1;generalize Hb:a.eval c=cc at r1';cases r1';simp [execOp,ho,asBool,Hb]
theorem KZ (h:bq E R w β s a) (t:TypeId) (x:Operand) (ho:o.op=.load t x) {v:AV} (hl:tL E s t (bQ E s.ab x)=some v) :
  cz E R w β s a o (s.put o.dst (.v v)):=by
 unfold tL at hl;split at hl
 ·rename_i i cs off hi hc;split at hl
  ·rename_i l hs;obtain ⟨b,o',vs,e,h1,h2,h3⟩:=wL h (aY h x) hc;obtain ⟨k1,k2,k3,k4⟩:=rI hs h1 h2;obtain ⟨c,hc,fF⟩:=qm (E:=E) hi (b:=b) (off:=o'+off) k1 k2 k3 (fun j y hy=>by rw [abD]; exact h3 _ _ (k4 j y hy)) hl;refine ap h (c:=c) ?_ fF;simp [execOp,ho,Instr.loadAt,e,abj,hc]
  ·cases hl
 ·cases hl
theorem kb {b:Nat} (hI:∀ o,¬ R.I b o) (cs:Array Value):Ext R w R (w.setRow b cs):=
 ⟨fun _ _ h=>h,fun b' o h=>cm (setRow_other w b b' cs (fun e=>hI o (e ▸ h))) o,fun _ ro h=>⟨ro,h,cV.refl ro⟩,fun b' r hb=>⟨r,by
  by_cases e:b'=b
  ·subst e;have bY:b' < w.heap.size:=bo hb;have hv:w.heap[b']=.loop r:=(Array.getElem?_eq_some_iff.1 hb).2;unfold World.setRow;rw [Array.getElem?_eq_getElem (by simpa using bY),Array.getElem_modify];simp [hv]
  ·exact (setRow_other w b b' cs e).trans hb,rfl,rfl,rfl,rfl,rfl⟩⟩
theorem aP.cu {cs ys:List AV} {vs us:List Value} {off:Nat} (h:aP R w cs vs) (k:aP R w ys us) (hl:off+ys.length≤cs.length) :
  aP R w (cu cs off ys) (vs.take off++us++vs.drop (off+us.length)):=by
 rw [fY cs off ys hl,← k.length];exact ((h.take off).append k).append (h.drop _)
theorem kd {vs us:List Value} {off n:Nat} (h:∀ x∈vs,x.oneCell'=true) (k:∀ x∈us,x.oneCell'=true):∀ x∈vs.take off++us++vs.drop n,x.oneCell'=true:=by
 intro x hx;simp only [abH] at hx;rcases hx with (hx|hx)|hx
 ·exact h x (abx hx)
 ·exact k x hx
 ·exact h x (abM hx)
theorem lB {t:TypeId} {i:TI} (hi:E.ti t=some i) {b off:Nat} {vs:List Value} {el:TypeId} {c:Value} (hb:w.heap[b]?=some (.cells ⟨vs⟩ el (0,0)))
  (hs:c.cells.toList.length=i.size) (hl:off+c.cells.toList.length≤vs.length) (h1:∀ v∈c.cells.toList,v.oneCell'=true) :
  (storeVar t ⟨b,off,none⟩ c).run E.P w=.ok () (w.setRow b ⟨vs.take off++c.cells.toList++vs.drop (off+c.cells.toList.length)⟩):=by
 obtain ⟨je,u,e1,e2,e3,_⟩:=cJ E hi;have mP:=run_storeCells_at (P:=E.P) b off el c.cells.toList 0 ⟨vs⟩ w hb (by simpa using hl) h1;have cK:c.cells.size=je.size:=by rw [e3,← hs]; simp
 simp only [abF] at mP;unfold storeVar;simp only [aau,run_sizeOf w e1,aad,Sem.run_ite,cK,ne_eq,not_true_eq_false,if_false];simpa using mP
theorem bq.Ht (h:bq E R w β s a) {id b k:Nat} {cs:List AV} (hb:nth R.obj id=some (.ck b)) (hk:eF s.boxes k=some cs):β k≠b:=by
 intro e;exact (h.b.box k cs hk).2.2 ⟨id,_,hb,by rw [e]; rfl⟩
theorem Hu (h:bq E R w β s a) (t:TypeId) (p x:Operand) (ho:o.op=.store t p x) (hd:o.dst=none) {s':St} (hs:kY E s t (bQ E s.ab p) (bQ E s.ab x)=some s') :
  cz E R w β s a o s':=by
 unfold kY at hs;have rp:=aY h p;have rx:=aY h x;split at hs
 ·rename_i i v hi hx;rw [hx] at rx;split at hs
  ·rename_i gN;simp only [aao] at gN;obtain ⟨Rk,hlen⟩:=gN;have hlen:=aaO hlen;obtain ⟨c1,c2⟩:=Rel.cells rx Rk;have ER:v.cells.length=(a.eval x).cells.toList.length:=c1.length;split at hs
   ·-- a local box
    rename_i k off hpe;rw [hpe] at rp;split at hs
    ·rename_i cs hk;split at hs
     ·rename_i hle;cases hs;have hle:=aaB hle;obtain ⟨⟨vs,el,b1,b2,b3⟩,b4,b5⟩:=h.b.box k cs hk;have bK:=lB (E:=E) (w:=w) hi (off:=off) (c:=a.eval x) b1 (by rw [← ER]; exact hlen) (by rw [← ER,← b2.length]; exact hle) c2;have hex:=kb (R:=R) (w:=w) b4 ⟨vs.take off++(a.eval x).cells.toList++vs.drop (off+(a.eval x).cells.toList.length)⟩;refine ⟨.skip,undef,w.setRow (β k) ⟨vs.take off++(a.eval x).cells.toList++vs.drop (off+(a.eval x).cells.toList.length)⟩,R,β,?_,.inr ⟨rfl,rfl⟩,?_,?_⟩
      ·simp [execOp,ho,Instr.storeAt,show a.eval p=.pointer (some ⟨β k,off,none⟩) from rp,abj,bK]
      ·rw [hd];refine ⟨?_,?_,h.t.mono hex,h.n,h.d⟩
       ·exact h.g.bJ hex rfl (fun b hb=>setRow_other w _ b _ (fun e=>b5 (e ▸ hb))) (fun _ _ _ hi=>hi) (fun b o hi=>by have:=h.g.wf b o hi; simp; omega)
       ·refine ⟨fun k' cs' jf=>?_,fun k1 k2 x1 x2 g1 g2=>?_⟩
        ·rcases fX jf with ⟨rfl,e⟩|⟨cK,aci⟩
         ·cases e;exact ⟨⟨_,el,setRow_heap w _ _ _ el (0,0) b1,(b2.cu c1 hle).mono hex,kd b3 c2⟩,b4,b5⟩
         ·obtain ⟨⟨vs',el',d1,d2,d3⟩,d4,d5⟩:=h.b.box k' cs' aci;refine ⟨⟨vs',el',?_,d2.mono hex,d3⟩,d4,d5⟩;rw [setRow_other]
          ·exact d1
          ·exact fun e=>cK (h.b.inj k' k cs' cs aci hk e).symm
        ·have q1:∃ y,eF s.boxes k1=some y:=by
          rcases fX g1 with ⟨rfl,_⟩|⟨_,g⟩
          ·exact ⟨_,hk⟩
          ·exact ⟨_,g⟩
         have q2:∃ y,eF s.boxes k2=some y:=by
          rcases fX g2 with ⟨rfl,_⟩|⟨_,g⟩
          ·exact ⟨_,hk⟩
          ·exact ⟨_,g⟩
         obtain ⟨y1,q1⟩:=q1;obtain ⟨y2,q2⟩:=q2;exact h.b.inj k1 k2 y1 y2 q1 q2
      ·have Dz:Own R β s.boxes (β k):=.inr ⟨k,cs,hk,rfl⟩;refine ⟨hex,rfl,rfl,rfl,by simp,fun b _ hn=>setRow_other w _ b _ (fun e=>hn (e ▸ Dz)),fun b _ hb=>?_,fun b o hi _ _=>hi⟩;rcases hb with hb|⟨k',cs',jf,e⟩
       ·exact .inl hb
       ·rcases fX jf with ⟨rfl,_⟩|⟨_,g⟩
        ·exact .inr ⟨k,cs,hk,e⟩
        ·exact .inr ⟨k',cs',g,e⟩
     ·cases hs
    ·cases hs
   ·-- an object
    rename_i id off hpe;rw [hpe] at rp;split at hs
    ·rename_i cs hk;split at hs
     ·rename_i hle;cases hs;have hle:=aaB hle;have rp':Rel R w (.ptr id off) (a.eval p):=rp;generalize hpv:a.eval p=pv at rp';cases rp' with
      | @ptr _ _ b hb=>
      obtain ⟨vs,b1,b2,b3,b4⟩:=h.g.obj id _ _ hk hb;have bK:=lB (E:=E) (w:=w) hi (off:=off) (c:=a.eval x) b1 (by rw [← ER]; exact hlen) (by rw [← ER,← b2.length]; exact hle) c2;have hex:=kb (R:=R) (w:=w) b4 ⟨vs.take off++(a.eval x).cells.toList++vs.drop (off+(a.eval x).cells.toList.length)⟩;refine ⟨.skip,undef,w.setRow b ⟨vs.take off++(a.eval x).cells.toList++vs.drop (off+(a.eval x).cells.toList.length)⟩,R,β,?_,.inr ⟨rfl,rfl⟩,?_,?_⟩
      ·simp [execOp,ho,Instr.storeAt,hpv,abj,bK]
      ·rw [hd];refine ⟨⟨?_,fun kV go ro hg hr=>?_,h.g.inj,fun b' o' sS=>by have:=h.g.wf b' o' sS; simp; omega,fun g cs' hg=>(h.g.cw g cs' hg).mono hex,by first | exact h.g.lo | exact Nat.le_succ_of_le h.g.lo⟩,?_,h.t.mono hex,h.n,h.d⟩
       ·simp [St.cP,h.g.len]
       ·rcases dW hg with ⟨rfl,rfl,_⟩|⟨cK,sk⟩
        ·rw [hb] at hr;cases hr;exact ⟨_,setRow_heap w _ _ _ _ (0,0) b1,(b2.cu c1 hle).mono hex,kd b3 c2,b4⟩
        ·refine (h.g.obj kV go ro sk hr).mono hex (fun b' ka=>setRow_other w _ b' _ (fun e=>cK ?_)) (fun _ _ _ hi=>hi);subst e;exact h.g.inj id kV _ _ b' hb hr rfl ka
       ·exact h.b.bJ hex (fun k cs' jf=>setRow_other w _ _ _ (h.Ht hb jf)) (fun _ _ _ _ hi=>hi) (fun _ _ _ hl=>hl)
      ·have Dz:Own R β s.boxes b:=.inl ⟨id,_,hb,rfl⟩;exact ⟨hex,rfl,rfl,rfl,by simp,fun b' _ hn=>setRow_other w _ b' _ (fun e=>hn (e ▸ Dz)),fun _ _ hb=>hb,fun b o hi _ _=>hi⟩
     ·cases hs
    ·cases hs
   ·cases hs
  ·cases hs
 ·cases hs
end ops
end Go.Am
namespace Go.Am
open Go
section ops
variable {E:Env} {R:ak} {w:World} {β:Nat→Nat} {s:St} {a:Act} {o:Oper}
def ak.add (R:ak) (ro:RO):ak:=⟨R.I,R.obj++[ro]⟩
theorem iV (wf:∀ b o,R.I b o→b < w.heap.size) (x:Obj) (ro:RO):Ext R w (R.add ro) (w.alloc x):=
 ⟨fun _ _ h=>h,fun b o h=>cm (heap_alloc_old w x b (wf b o h)) o,fun _ r h=>⟨r,dX h,cV.refl r⟩,.old fun b hb=>heap_alloc_old w x b hb⟩
theorem oe {ro:RO} {b:Nat} (h:Live (R.add ro) b):Live R b∨ro.has b:=by
 obtain ⟨id,r,h1,h2⟩:=h;rcases av h1 with h1|⟨_,rfl⟩
 ·exact .inl ⟨id,r,h1,h2⟩
 ·exact .inr h2
theorem bq.nE (h:bq E R w β s a) (x:Obj) (go:GO) (ro:RO) (ca:∀ b,ro.has b→b=w.heap.size) (jH:iP (R.add ro) (w.alloc x) go ro):bq E (R.add ro) (w.alloc x) β (s.fj go) a where
 g:=by
  have e:=iV (R:=R) (w:=w) h.g.wf x ro;refine ⟨by simp [St.fj,ak.add,h.g.len],fun id g r h1 h2=>?_,fun i j ri rj b h1 h2 b1 b2=>?_,fun b o hi=>?_,fun g cs hg=>(h.g.cw g cs hg).mono e,by first | exact h.g.lo | exact Nat.le_succ_of_le h.g.lo⟩
  ·rcases av h2 with h2|⟨h3,rfl⟩
   ·have bY:=cg h2;rw [h.g.len] at bY;rcases av h1 with h1|⟨h4,_⟩
    ·exact (h.g.obj id g r h1 h2).mono e (fun b hb=>heap_alloc_old w x b (h.g.cj ⟨id,r,h2,hb⟩)) (fun _ _ _ hi=>hi)
    ·omega
   ·rcases av h1 with h1|⟨h4,rfl⟩
    ·have:=cg h1;rw [h3,h.g.len] at this;omega
    ·exact jH
  ·rcases av h1 with g1|⟨h3,e1⟩
   ·rcases av h2 with g2|⟨h4,e2⟩
    ·exact h.g.inj i j ri rj b g1 g2 b1 b2
    ·have:=h.g.cj ⟨i,ri,g1,b1⟩;rw [e2] at b2;have:=ca b b2;omega
   ·rcases av h2 with g2|⟨h4,e2⟩
    ·have:=h.g.cj ⟨j,rj,g2,b2⟩;rw [e1] at b1;have:=ca b b1;omega
    ·omega
  ·have:=h.g.wf b o hi;simp;omega
 b:=h.b.bJ (iV h.g.wf x ro) (fun k cs hk=>heap_alloc_old w x _ (h.fE (.inr ⟨k,cs,hk,rfl⟩))) (fun _ _ _ _ hi=>hi) (fun k cs hk hl=>by
  rcases oe hl with hl|hl
  ·exact hl
  ·have:=h.fE (.inr ⟨k,cs,hk,rfl⟩);have hl:=ca _ hl;omega)
 t:=h.t.mono (iV h.g.wf x ro)
 n:=h.n
 d:=h.d.mono (iV h.g.wf x ro)
theorem dD (h:bq E R w β s a) (x:Obj) (ro:RO) (ca:∀ b,ro.has b→b=w.heap.size):Step R w β s.boxes (R.add ro) (w.alloc x) β s.boxes:=
 ⟨iV h.g.wf x ro,rfl,rfl,rfl,by simp,fun b hb _=>heap_alloc_old w x b hb,fun b hb ho=>by
  rcases ho with ho|ho
  ·rcases oe ho with ho|ho
   ·exact .inl ho
   ·have ho:=ca _ ho;omega
  ·exact .inr ho,fun _ _ hi _ _=>hi⟩
theorem iy (h:bq E R w β s a) (ro:RO):nth (R.add ro).obj s.G.length=some ro:=by
 rw [← h.g.len];exact fW _ _
theorem E1 {f:FuncId} (h:bq E R w β s a) {v:AV} {c:Value} {t:TypeId} (hv:Rel R w v c) (hn:v.ba=true)
  (hx:(execOp a.eval o).run E.P w=.ok (.value (.pointer (some ⟨w.heap.size,0,none⟩))) (w.alloc (.cells c.cells t))) {s':St} (ha:gq E f s o.dst t v.cells=some (true,s')) :
  cz E R w β s a o s':=by
 obtain ⟨c1,c2⟩:=Rel.cells hv hn;unfold gq at ha;split at ha
 ·cases ha
 ·rename_i d hd;split at ha
  ·-- an object
   cases ha;have jH:iP (R.add (.ck w.heap.size)) (w.alloc (.cells c.cells t)) (.row v.cells t) (.ck w.heap.size):=
    ⟨c.cells.toList,heap_alloc_new w _,c1.mono (iV h.g.wf _ _),c2,fun o' hi=>by have:=h.g.wf _ _ hi; omega⟩
   have df:=h.nE (.cells c.cells t) (.row v.cells t) (.ck w.heap.size) (by exact fun _ h=>h) jH;refine ⟨_,.pointer (some ⟨w.heap.size,0,none⟩),_,R.add (.ck w.heap.size),β,hx,.inl rfl,?_,?_⟩
   ·rw [hd];exact df.put (some d) (x:=.v (.ptr s.G.length 0)) (Rel.ptr (iy h _))
   ·rw [bf];exact dD h _ _ (by exact fun _ h=>h)
  ·split at ha
   ·rename_i hbx;injection ha with ha;injection ha with _ XN;subst XN;have e:=vq (R:=R) (w:=w) h.g.wf (.cells c.cells t)
    let β':Nat→Nat:=fun k=>if k=d then w.heap.size else β k
    have Jo:β' d=w.heap.size:=by simp [β']
    have cK:∀ k,k≠d→β' k=β k:=fun k hk=>by simp [β',hk]
    have hdn:d < a.tmps.size:=by rw [h.n]; exact aaB hbx
    have Hv:((s.kill d).xI d v.cells).put (some d) (.lp d 0)=⟨.put d (.lp d 0) :: .kill d :: s.ab,(d,v.cells) :: s.boxes,s.G,s.marks,s.ro,s.n⟩:=by
     simp only [St.put,St.xI,St.kill,hbx]
    refine ⟨_,.pointer (some ⟨w.heap.size,0,none⟩),_,R,β',hx,.inl rfl,?_,?_⟩
    ·rw [hd,Hv];refine ⟨?_,⟨fun k cs hk=>?_,fun k k' cs cs' hk jf he=>?_⟩,?_,by simp [Act.put,h.n],h.d⟩
     ·exact h.g.bJ e rfl (fun b hb=>heap_alloc_old w _ b (h.g.cj hb)) (fun _ _ _ hi=>hi) (fun b o hi=>by have:=h.g.wf b o hi; simp; omega)
     ·rcases fX hk with ⟨rfl,he⟩|⟨Rl,hk⟩
      ·cases he;rw [Jo];exact ⟨⟨c.cells.toList,t,heap_alloc_new w _,c1.mono e,c2⟩,fun o' hi=>by have:=h.g.wf _ _ hi; omega,fun hl=>by have:=h.g.cj hl; omega⟩
      ·rw [cK k (abJ Rl)];obtain ⟨⟨vs,el,b1,b2,b3⟩,b4,b5⟩:=h.b.box k cs hk;exact ⟨⟨vs,el,(heap_alloc_old w _ _ (bo b1)).trans b1,b2.mono e,b3⟩,b4,b5⟩
     ·rcases fX hk with ⟨rfl,_⟩|⟨Rl,hk⟩
      ·rcases fX jf with ⟨rfl,_⟩|⟨XO,jf⟩
       ·rfl
       ·rw [Jo,cK k' (abJ XO)] at he;have:=h.fE (.inr ⟨k',cs',jf,rfl⟩);omega
      ·rcases fX jf with ⟨rfl,_⟩|⟨XO,jf⟩
       ·rw [Jo,cK k (abJ Rl)] at he;have:=h.fE (.inr ⟨k,cs,hk,rfl⟩);omega
       ·rw [cK k (abJ Rl),cK k' (abJ XO)] at he;exact h.b.inj k k' cs cs' hk jf he
     ·intro i hi;by_cases hdi:d=i
      ·subst hdi;rw [aC];refine ⟨.pointer (some ⟨w.heap.size,0,none⟩),by simp [Act.put,hdn],?_⟩;show Value.pointer _=_;rw [Jo]
      ·rw [aW hdi] at hi ⊢;rcases Jm (l:=s.ab) (d:=d) (t:=i) with ⟨h1,h2⟩|h1
       ·rw [h1] at hi ⊢;obtain ⟨c',q1,q2⟩:=h.t i hi;refine ⟨c',?_,?_⟩
        ·simp only [Act.put];rw [Array.getElem?_setIfInBounds_ne hdi];exact q1
        ·cases so:lk s.ab i with
         |none=>trivial
         |v y=>rw [so] at q2; exact Rel.mono e q2
         |lp k off=>
          rw [so] at q2;show c'=_;rw [cK k (h2 k off so)];exact q2
       ·exact absurd h1 hi
    ·rw [Hv];refine ⟨e,rfl,rfl,rfl,by simp,fun b hb _=>heap_alloc_old w _ b hb,fun b hb ho=>?_,fun _ _ hi _ _=>hi⟩;rcases ho with ho|⟨k,cs,hk,he⟩
     ·exact .inl ho
     ·rcases fX hk with ⟨rfl,_⟩|⟨Rl,hk⟩
      ·rw [Jo] at he;omega
      ·rw [cK k (abJ Rl)] at he;exact .inr ⟨k,cs,hk,he⟩
   ·cases ha
theorem dR {i:TypeInfo} {z:AV} (h:ij i=some z):∃ c,i.zero=some c∧∀ R w,Rel R w z c:=by
 unfold ij at h;split at h
 ·rename_i c hc;exact ⟨c,hc,fun R w=>wK h⟩
 ·cases h
theorem Hw {f:FuncId} (h:bq E R w β s a) (t:TypeId) (ho:o.op=.alloc t) {i:TI} {z:AV} (hi:E.ti t=some i) (hz:i.zero=some z) (hn:z.ba=true) {s':St} (ha:gq E f s o.dst t z.cells=some (true,s')) :
  cz E R w β s a o s':=by
 obtain ⟨je,u,e1,e2,e3,e4,e5,e6⟩:=cJ E hi;rw [hz] at e6;obtain ⟨c,hc,hr⟩:=dR e6;refine E1 h (hr R w) hn (t:=t) ?_ ha;simp [execOp,ho,Instr.alloc,iQ w e1 hc,za]
theorem MO {f:FuncId} (h:bq E R w β s a) (t:TypeId) (x:Operand) (ho:o.op=.box t x) {v:AV} (hv:bQ E s.ab x=.v v) (hn:v.ba=true) {s':St} (ha:gq E f s o.dst t v.cells=some (true,s')) :
  cz E R w β s a o s':=by
 have hr:=aY h x;rw [hv] at hr;refine E1 h hr hn (t:=t) ?_ ha;simp [execOp,ho,Instr.box,za]
end ops
end Go.Am
namespace Go.Am
open Go
section types
variable {P:Program}
theorem pd:∀ {fs:List Field} {l:List (Nat × Nat × Bool)},fieldsOf P fs=some l→∀ {j o sz:Nat} {ag:Bool},nth l j=some (o,sz,ag) →
  ∃ f fi u,fs[j]?=some f∧f.offset=o∧P.info? f.type=some fi∧fi.size=sz∧P.underlying f.type=some u∧kX u=ag
 |[],l,h,j,o,sz,ag,hn=>by simp [fieldsOf] at h; subst h; simp [nth] at hn
 |f :: fs,l,h,j,o,sz,ag,hn=>by
  unfold fieldsOf at h;split at h
  ·rename_i i u r h1 h2 h3;cases h;cases j with
   |zero=>simp [nth] at hn; obtain ⟨e1,e2,e3⟩:=hn; exact ⟨f,i,u,by simp,e1,h1,e2,h2,e3⟩
   |succ j=>
    obtain ⟨f',fi,u',g1,g2⟩:=pd h3 (show nth r j=some (o,sz,ag) from hn);exact ⟨f',fi,u',by simpa using g1,g2⟩
  ·cases h
theorem pZ:∀ {fs:List Field} {l:List (Nat × Nat × Bool)},fieldsOf P fs=some l→fs.mapM (fun f=>(P.info? f.type).map fun i=>(f.offset,i.size))=some (l.map fun x=>(x.1,x.2.1))
 |[],l,h=>by simp [fieldsOf] at h; subst h; simp
 |f :: fs,l,h=>by
  unfold fieldsOf at h;split at h
  ·rename_i i u r h1 h2 h3;cases h;simp [List.mapM_cons,h1,pZ h3]
  ·cases h
theorem Jp {u:TypeDesc} {l:List (Nat × Nat × Bool)} (h:sf P u=some (.st l)):∃ fs,u=.struct fs∧fieldsOf P fs.toList=some l:=by
 cases u <;> simp only [sf] at h <;> try (cases h; done)
 all_goals (try (split at h <;> cases h; done))
 rename_i fs;split at h
 ·rename_i l' hl;cases h;exact ⟨fs,rfl,hl⟩
 ·cases h
theorem qn {u:TypeDesc} {n esz:Nat} {ag:Bool} (h:sf P u=some (.arr n esz ag)):∃ e i ue,u=.array n e∧P.info? e=some i∧i.size=esz∧P.underlying e=some ue∧kX ue=ag:=by
 cases u <;> simp only [sf] at h <;> try (cases h; done)
 all_goals (try (split at h <;> cases h; done))
 rename_i m e;split at h
 ·rename_i i ue h1 h2;cases h;exact ⟨e,i,ue,rfl,h1,rfl,h2,rfl⟩
 ·cases h
theorem fB {u:TypeDesc} {e esz qp:Nat} {ag:Bool} {z:Option AV} (h:sf P u=some (.sl e esz ag qp z)) :
  ∃ i ue,u=.slice e∧P.info? e=some i∧i.size=esz∧i.bytes=qp∧P.underlying e=some ue∧kX ue=ag∧ij i=z:=by
 cases u <;> simp only [sf] at h <;> try (cases h; done)
 all_goals (try (split at h <;> cases h; done))
 rename_i e';split at h
 ·rename_i i ue h1 h2;injection h with h;injection h with g1 g2 g3 g4 g5;subst g1; subst g2; subst g3; subst g4; subst g5;exact ⟨i,ue,rfl,h1,rfl,rfl,h2,rfl,rfl⟩
 ·cases h
theorem mc {u:TypeDesc} (h:sf P u=some .str):u=.string:=by
 cases u <;> simp only [sf] at h <;> try (cases h; done)
 all_goals (try (split at h <;> cases h; done))
 rfl
theorem tT {u:TypeDesc} {k:IntKind} (h:sf P u=some (.int k)):u=.int k:=by
 cases u <;> simp only [sf] at h <;> try (cases h; done)
 all_goals (try (split at h <;> cases h; done))
 cases h;rfl
theorem og {u:TypeDesc} {k e:TypeId} {z:Option AV} (h:sf P u=some (.map k e z)):u=.map k e∧∃ i,P.info? e=some i∧ij i=z:=by
 cases u <;> simp only [sf] at h <;> try (cases h; done)
 all_goals (try (split at h <;> cases h; done))
 split at h
 ·rename_i i h1;cases h;exact ⟨rfl,i,h1,rfl⟩
 ·cases h
end types
section ops
variable {E:Env} {R:ak} {w:World} {β:Nat→Nat} {s:St} {a:Act} {o:Oper}
theorem Ci {p q:SV} {c:Value} {n:Nat} (hp:si R w β p c) (hm:Cb n p=some q) :
  ∃ b o,c=.pointer (some ⟨b,o,none⟩)∧si R w β q (.pointer (some ⟨b,o+n,none⟩)):=by
 unfold Cb at hm;split at hm
 ·cases hm;exact ⟨_,_,hp,rfl⟩
 ·cases hm;cases hp with
  | @ptr _ _ b hb=>exact ⟨b,_,rfl,Rel.ptr hb⟩
 ·cases hm;cases hp with
  | @ep _ b o hr=>
   refine ⟨b,o,rfl,Rel.ep ?_⟩;rw [yZ];exact hr.drop n
 ·cases hm;cases hp with
  | @gp _ _ _ _ _ b o _ ro hr dS=>
   refine ⟨b,o,rfl,Rel.gp hr ?_⟩;cases ro with
   |none=>trivial
   |bS=>exact dS.elim
   |ck _=>exact dS.elim
   |bF _=>exact dS.elim
   |tok f1 b1 c1=>exact ⟨dS.1,fun e=>⟨(dS.2 e).1,by rw [(dS.2 e).2,abD]⟩⟩
 ·cases hm
theorem zd (h:bq E R w β s a) (t:TypeId) (x:Operand) (j:Nat) (ho:o.op=.fieldAddr t x j) {q:SV} (hq:lZ E t (bQ E s.ab x) j=some q) :
  cz E R w β s a o (s.put o.dst q):=by
 unfold lZ at hq;split at hq
 ·rename_i i hi;split at hq
  ·rename_i fs hk;split at hq
   ·rename_i off sz ag hn;split at hq
    ·rename_i gi;have gi:=aaB gi;obtain ⟨je,u,e1,e2,e3,e4,e5,e6⟩:=cJ E hi;rw [hk] at e5;obtain ⟨fl,rfl,hf⟩:=Jp e5;obtain ⟨f,fi,u',g1,g2,g3,g4,g5,g6⟩:=pd hf hn;obtain ⟨b,o',m1,m2⟩:=Ci (aY h x) hq;refine ap h ?_ m2;have g1':fl[j]?=some f:=by simpa using g1
     have cK:¬ fi.size=0:=by omega
     simp [execOp,ho,Instr.fieldAt,run_underlying e2,g1',m1,abj,fieldPlace,run_sizeOf w g3,cK,cZ,g2]
    ·cases hq
   ·cases hq
  ·cases hq
 ·cases hq
theorem E2 {b o sz:Nat} {es:List AV} (h:iu R w b o sz es) {n:Nat} {e:AV} (hn:nth es n=some e):fk R w b (o+n * sz) e.cells∧e.cells.length=sz∧e.ba=true:=by
 induction es generalizing o n with
 |nil=>simp [nth] at hn
 |cons x l ih=>
  cases h with
  |cons hl ht _ h t=>
   cases n with
   |zero=>simp [nth] at hn; subst hn; exact ⟨by simpa using h,hl,ht⟩
   |succ n=>
    have:=ih t (show nth l n=some e from hn);rw [show o+sz+n * sz=o+(n+1) * sz by rw [abu]; omega] at this;exact this
theorem ze (h:bq E R w β s a) (t:TypeId) (x ix:Operand) (ho:o.op=.indexAddr t x ix) {q:SV} (hq:lY E t (bQ E s.ab x) (bQ E s.ab ix)=some (true,q)) :
  cz E R w β s a o (s.put o.dst q):=by
 have rx:=aY h x;have ri:=aY h ix;unfold lY at hq;split at hq
 ·rename_i i k n hi hix;rw [hix] at ri;have WD:Rel R w (.int k n) (a.eval ix):=ri;generalize Rm:a.eval ix=iv at WD;cases WD;obtain ⟨je,u,e1,e2,e3,e4,e5,e6⟩:=cJ E hi;split at hq
  ·-- a list
   rename_i elem esz ag qp z kk sz es hk hx;rw [hx] at rx;rw [hk] at e5;obtain ⟨ie,ue,rfl,f1,f2,f3,f4,f5,f6⟩:=fB e5;split at hq
   ·rename_i hc;have key:∀ (u:AV),(0≤n∧n < (es.length:Int))→de (ae es n.toNat).cells u.cells→cz E R w β s a o (s.put o.dst (.v (.ep u.cells))):=fun u zf hu=>by
     obtain ⟨DA,Jq⟩:=zf;have fe:Rel R w (.list kk sz es) (a.eval x):=rx;generalize gE:a.eval x=xv at fe;cases fe with
     |mb=>simp at Jq; omega
     |j9=>simp at Jq; omega
     |oW=>simp at Jq; omega
     |oa=>simp at Jq; omega
     |oX=>simp at Jq; omega
     | @list _ _ _ b o' len cap hr hl jK MP=>
      subst hl;have bY:n.toNat < es.length:=by omega
      obtain ⟨e,he⟩:∃ e,nth es n.toNat=some e:=⟨es[n.toNat],by rw [bj]; exact abo bY⟩;have gi:sz=esz:=by
       simp only [Bool.or_eq_true] at hc;rcases hc with hc|hc
       ·exact aaO hc
       ·cases es with
        |nil=>simp at bY
        |cons _ _=>simp at hc
      obtain ⟨g1,_,_⟩:=E2 hr he;refine ap h (c:=.pointer (some ⟨b,o'+n.toNat * sz,none⟩)) ?_ ?_
      ·have gN:0≤n∧n < (es.length:Int):=⟨DA,Jq⟩;simp [execOp,ho,abq,Rm,gE,asIntOf,run_underlying e2,gN,run_sizeOf w f1,f2,gi,cZ]
      ·have:ae es n.toNat=e:=by simp [ae,he]
       rw [this] at hu;exact .ep (hu.ML g1)
    split at hq
    ·rename_i p hp;injection hq with hq;injection hq with zf qq;subst qq;rw [aao] at zf;have gN:=of_decide_eq_true zf.1;have hd:=p.dL zf.2;have bY:n.toNat < es.length:=by omega
     refine key _ gN (hd.cells ?_);obtain ⟨e,he⟩:∃ e,nth es n.toNat=some e:=⟨es[n.toNat],by rw [bj]; exact abo bY⟩;have:ae es n.toNat=e:=by simp [ae,he]
     rw [this];have fe:Rel R w (.list kk sz es) (a.eval x):=rx;generalize a.eval x=xv at fe;cases fe with
     |mb=>simp at bY
     |j9=>simp at bY
     |oW=>simp at bY
     |oa=>simp at bY
     |oX=>simp at bY
     |list hr _ _ _=>exact (E2 hr he).2.2
    ·injection hq with hq;injection hq with zf qq;subst qq;exact key _ (of_decide_eq_true zf) (de.refl _)
   ·cases hq
  ·-- a heap slice
   rename_i elem esz ag qp z id off sz len cap hk hx;rw [hx] at rx;rw [hk] at e5;obtain ⟨ie,ue,rfl,f1,f2,f3,f4,f5,f6⟩:=fB e5;split at hq
   ·rename_i hc;have gi:=aaO hc;injection hq with hq;injection hq with zf qq;subst qq;have gN:=of_decide_eq_true zf;have fe:Rel R w (.lz id off sz len cap) (a.eval x):=rx;generalize gE:a.eval x=xv at fe;cases fe with
    | @lz _ _ _ _ _ b hb _=>
     refine ap h (c:=.pointer (some ⟨b,off+n.toNat * sz,none⟩)) ?_ (Rel.ptr hb);simp [execOp,ho,abq,Rm,gE,asIntOf,run_underlying e2,gN,run_sizeOf w f1,f2,gi,cZ]
   ·cases hq
  ·-- a slice that grows
   rename_i elem esz ag qp z id f' off sz len hk hx;rw [hx] at rx;rw [hk] at e5;obtain ⟨ie,ue,rfl,f1,f2,f3,f4,f5,f6⟩:=fB e5;split at hq
   ·rename_i hc;have gi:=aaO hc;injection hq with hq;injection hq with zf qq;subst qq;have gN:=of_decide_eq_true zf;have fe:Rel R w (.dM id f' off sz len) (a.eval x):=rx;generalize gE:a.eval x=xv at fe;cases fe with
    |jX _ _=>omega
    | @dM _ _ _ _ _ cap b o' ro ca dS jK=>
     refine ap h (c:=.pointer (some ⟨b,o'+n.toNat * sz,none⟩)) ?_ (Rel.gp ca ?_)
     ·simp [execOp,ho,abq,Rm,gE,asIntOf,run_underlying e2,gN,run_sizeOf w f1,f2,gi,cZ]
     ·cases ro with
      |none=>trivial
      |bS=>exact dS.elim
      |ck _=>exact dS.elim
      |bF _=>exact dS.elim
      |tok f1 b1 c1=>
       refine ⟨dS.1,fun e=>?_⟩;obtain ⟨k1,k2,k3⟩:=dS.2 e;refine ⟨k1,?_⟩;rcases k3 with k3|k3
       ·rw [k3,abF,abu]
       ·omega
   ·cases hq
  ·-- an array that is never written
   rename_i len esz ag cs hk hx;rw [hx] at rx;rw [hk] at e5;obtain ⟨e,ie,ue,rfl,f1,f2,f3,f4⟩:=qn e5;have fe:Rel R w (.ep cs) (a.eval x):=rx;generalize gE:a.eval x=xv at fe;cases fe with
   | @ep _ b o' hr=>
    split at hq
    ·rename_i p hp;split at hq
     ·rename_i hc;rw [aao] at hc;have hz:=aaO hc.1;have hl:=aaB hc.2;injection hq with hq;injection hq with zf qq;subst qq;rw [aao] at zf;have gN:=of_decide_eq_true zf.1;have hd:=p.dL zf.2;have bY:n.toNat < cs.length:=by omega
      have hdr:=hr.drop n.toNat;rw [List.drop_eq_getElem_cons bY] at hdr;have hn:ae cs n.toNat=cs[n.toNat]:=by
       unfold ae;rw [bj,abo bY]
      rw [hn] at hd ⊢;refine ap h (c:=.pointer (some ⟨b,o'+n.toNat * esz,none⟩)) ?_ ?_
      ·simp [execOp,ho,abq,Rm,gE,abj,asIntOf,run_underlying e2,gN,run_sizeOf w f1,f2,cZ]
      ·subst hz;rw [Nat.mul_one];cases hdr with
       |cons hc h1 hi fF t=>exact .ep (.cons hc h1 hi (hd.1 _ _ _ fF) .nil)
     ·cases hq
    ·injection hq with hq;injection hq with zf qq;subst qq;have gN:=of_decide_eq_true zf;refine ap h (c:=.pointer (some ⟨b,o'+n.toNat * esz,none⟩)) ?_ ?_
     ·simp [execOp,ho,abq,Rm,gE,abj,asIntOf,run_underlying e2,gN,run_sizeOf w f1,f2,cZ]
     ·rw [yZ];exact .ep (hr.drop _)
  ·-- an array
   rename_i len esz ag hk _;rw [hk] at e5;obtain ⟨e,ie,ue,rfl,f1,f2,f3,f4⟩:=qn e5;split at hq
   ·rename_i q' hm;injection hq with hq;injection hq with zf qq;subst qq;have gN:=of_decide_eq_true zf;obtain ⟨b,o',m1,m2⟩:=Ci rx hm;refine ap h ?_ m2;simp [execOp,ho,abq,Rm,m1,abj,asIntOf,run_underlying e2,gN,run_sizeOf w f1,f2,cZ]
   ·cases hq
  ·cases hq
 ·cases hq
theorem oh {t:TypeId} {i:TypeInfo} {u:TypeDesc} (h1:E.P.info? t=some i) (h2:E.P.underlying t=some u) {off:Nat} {cs l:List AV} {vs:List Value} {v:AV} (hr:aP R w cs vs) (h3:∀ x∈vs,x.oneCell'=true)
  (DB:kX u=true→Ji off i.size cs=some l∧vk true l=some v) (XP:kX u=false→Ji off 1 cs=some l∧vk false l=some v) :
  ∃ c,(part t ⟨vs⟩ off).run E.P w=.ok c w∧Rel R w v c:=by
 unfold part;simp only [aau,Ch w h2,aad];cases ha:kX u with
 |true=>
  obtain ⟨g1,g2⟩:=DB ha;obtain ⟨k1,k2,k3,k4⟩:=rI g1 hr h3;obtain ⟨m1,_⟩:=zb g2 k2 k3;refine ⟨_,?_,m1 rfl⟩;have:(⟨vs⟩:Array Value).extract off (off+i.size)=⟨(vs.drop off).take i.size⟩:=by
   apply aby;simp [List.extract_eq_take_drop]
  simp [run_sizeOf w h1]
 |false=>
  obtain ⟨g1,g2⟩:=XP ha;obtain ⟨k1,k2,k3,k4⟩:=rI g1 hr h3;obtain ⟨_,m2⟩:=zb g2 k2 k3;obtain ⟨c,hc,fF⟩:=m2 rfl;refine ⟨c,?_,fF⟩;have h0:=k4 0 c (by rw [hc]; simp);simp only [abF] at h0;simp [h0]
theorem Hx (h:bq E R w β s a) (t:TypeId) (x:Operand) (j:Nat) (ho:o.op=.field t x j) {v:AV} (hq:Hl E t (bQ E s.ab x) j=some v) :
  cz E R w β s a o (s.put o.dst (.v v)):=by
 have rx:=aY h x;unfold Hl at hq;split at hq
 ·rename_i i cs hi hx;rw [hx] at rx;have fe:Rel R w (.agg cs) (a.eval x):=rx;generalize gE:a.eval x=xv at fe;cases fe with
  | @agg _ vs hr h1=>
  split at hq
  ·rename_i fs hk;split at hq
   ·rename_i off sz ag hn;obtain ⟨je,u,e1,e2,e3,e4,e5,e6⟩:=cJ E hi;rw [hk] at e5;obtain ⟨fl,rfl,hf⟩:=Jp e5;obtain ⟨f,fi,u',g1,g2,g3,g4,g5,g6⟩:=pd hf hn;have key:∃ c,(part f.type ⟨vs⟩ off).run E.P w=.ok c w∧Rel R w v c:=by
     split at hq
     ·rename_i DB;split at hq
      ·rename_i l hl;exact oh g3 g5 (l:=l) hr h1 (fun _=>⟨by rw [g4]; exact hl,hq⟩) (fun hf=>by rw [g6,DB] at hf; cases hf)
      ·cases hq
     ·rename_i DB;split at hq
      ·rename_i l hl;exact oh g3 g5 (l:=l) hr h1 (fun hf=>by rw [g6] at hf; exact absurd hf DB) (fun _=>⟨hl,hq⟩)
      ·cases hq
    obtain ⟨c,k1,k2⟩:=key;refine ap h ?_ k2;have g1':fl[j]?=some f:=by simpa using g1
    simp [execOp,ho,Instr.field,run_underlying e2,g1',gE,asAgg,g2,k1]
   ·cases hq
  ·cases hq
 ·cases hq
theorem Hy (h:bq E R w β s a) (t:TypeId) (x ix:Operand) (ho:o.op=.index t x ix) {v:AV} (hq:Hm E t (bQ E s.ab x) (bQ E s.ab ix)=some (true,v)) :
  cz E R w β s a o (s.put o.dst (.v v)):=by
 have rx:=aY h x;have ri:=aY h ix;unfold Hm at hq;split at hq
 ·rename_i i l k n hi hx hix;rw [hx] at rx;rw [hix] at ri;have WD:Rel R w (.int k n) (a.eval ix):=ri;have fe:Rel R w (.str l) (a.eval x):=rx;generalize Rm:a.eval ix=iv at WD;generalize gE:a.eval x=xv at fe;cases WD;cases fe;obtain ⟨je,u,e1,e2,e3,e4,e5,e6⟩:=cJ E hi;split at hq
  ·rename_i hk;rw [hk] at e5;have:=mc e5;subst this;injection hq with hq;injection hq with zf qq;subst qq;obtain ⟨DA,Jq⟩:=of_decide_eq_true zf;have bY:n.toNat < l.length:=by omega
   refine ap h (c:=.int .u8 (l.getD n.toNat 0).toNat) ?_ (Rel.int _ _);have lC:(⟨⟨l⟩⟩:ByteArray)[n.toNat]?=some (l.getD n.toNat 0):=by
    have hs:n.toNat < (⟨⟨l⟩⟩:ByteArray).size:=bY;rw [getElem?_pos (⟨⟨l⟩⟩:ByteArray) n.toNat hs];congr 1;simp [List.getD,abo bY];rfl
   simp [execOp,ho,Instr.index,Rm,gE,asIntOf,run_underlying e2,DA,lC]
  ·cases hq
 ·rename_i i cs k n hi hx hix;rw [hx] at rx;rw [hix] at ri;have WD:Rel R w (.int k n) (a.eval ix):=ri;have fe:Rel R w (.agg cs) (a.eval x):=rx;generalize Rm:a.eval ix=iv at WD;generalize gE:a.eval x=xv at fe;cases WD;cases fe with
  | @agg _ vs hr h1=>
  obtain ⟨je,u,e1,e2,e3,e4,e5,e6⟩:=cJ E hi;split at hq
  ·rename_i len esz ag hk;rw [hk] at e5;obtain ⟨e,ie,ue,rfl,f1,f2,f3,f4⟩:=qn e5;split at hq
   ·rename_i v' RU;injection hq with hq;injection hq with zf qq;subst qq;have gN:=of_decide_eq_true zf;have key:∃ c,(part e ⟨vs⟩ (n.toNat * esz)).run E.P w=.ok c w∧Rel R w v' c:=by
     split at RU
     ·rename_i DB;split at RU
      ·rename_i l hl;exact oh f1 f3 (l:=l) hr h1 (fun _=>⟨by rw [f2]; exact hl,RU⟩) (fun hf=>by rw [f4,DB] at hf; cases hf)
      ·cases RU
     ·rename_i DB;split at RU
      ·rename_i l hl;exact oh f1 f3 (l:=l) hr h1 (fun hf=>by rw [f4] at hf; exact absurd hf DB) (fun _=>⟨hl,RU⟩)
      ·cases RU
    obtain ⟨c,k1,k2⟩:=key;refine ap h ?_ k2;simp [execOp,ho,Instr.index,Rm,gE,asIntOf,run_underlying e2,gN,run_sizeOf w f1,f2,k1]
   ·cases hq
  ·cases hq
 ·cases hq
theorem DC (h:bq E R w β s a) (x:Operand) (j:Nat) (ho:o.op=.extract x j) {vs:List AV} {v:AV} (hx:bQ E s.ab x=.v (.bu vs)) (hn:nth vs j=some v) :
  cz E R w β s a o (s.put o.dst (.v v)):=by
 have rx:=aY h x;rw [hx] at rx;have fe:Rel R w (.bu vs) (a.eval x):=rx;generalize gE:a.eval x=xv at fe;cases fe with
 | @bu _ us hr=>
 rw [bj] at hn;obtain ⟨c,h1,h2⟩:=hr.get hn;refine ap h ?_ h2;simp [execOp,ho,Instr.extract,gE,h1]
theorem iW (h:bq E R w β s a):∀ {l:List Operand} {vs:List AV},oR E s.ab l=some vs→aP R w vs (l.map a.eval)
 |[],vs,hl=>by simp [oR] at hl; subst hl; exact .nil
 |x :: l,vs,hl=>by
  unfold oR at hl;split at hl
  ·rename_i v r h1 h2;cases hl;have:=aY h x;rw [h1] at this;exact .cons this (iW h h2)
  ·cases hl
theorem BG (h:bq E R w β s a) (g:FuncId) (x y:Array Operand) (ho:o.op=.makeFunc (.func g) x y) {p q:List AV} (hp:oR E s.ab x.toList=some p) (hq:oR E s.ab y.toList=some q) :
  cz E R w β s a o (s.put o.dst (.v (.fn g p q))):=by
 have h1:=iW h hp;have h2:=iW h hq;refine ap h (c:=.func (.func g) ⟨x.toList.map a.eval⟩ ⟨y.toList.map a.eval⟩) ?_ (Rel.fn h1 h2);have e1:x.map a.eval=⟨x.toList.map a.eval⟩:=aby (by simp);have e2:y.map a.eval=⟨y.toList.map a.eval⟩:=aby (by simp);simp [execOp,ho,Instr.makeFunc,e1,e2]
end ops
end Go.Am
namespace Go.Am
open Go
section ops
variable {E:Env} {R:ak} {w:World} {β:Nat→Nat} {s:St} {a:Act} {o:Oper}
theorem size_bytes (l:List UInt8):(⟨⟨l⟩⟩:ByteArray).size=l.length:=rfl
theorem tU (l:List UInt8):(⟨⟨l⟩⟩:ByteArray).toList=l:=by rw [ByteArray.toList_eq]
theorem DD (l r:List UInt8):((⟨⟨l⟩⟩:ByteArray)++⟨⟨r⟩⟩)=⟨⟨l++r⟩⟩:=by
 apply ByteArray.ext;rw [ByteArray.data_append];simp
theorem K0 (op:BinOp) (t:TypeId) (x y:Operand) (k k':IntKind) (n m:Int):(eqGuard op t x y (.int k n) (.int k' m)).run E.P w=.ok () w:=by
 unfold eqGuard;cases op <;> rfl
theorem K1 (op:BinOp) (t:TypeId) (x y:Operand) (n m:ByteArray):(eqGuard op t x y (.string n) (.string m)).run E.P w=.ok () w:=by
 unfold eqGuard;cases op <;> rfl
theorem Hz (h:bq E R w β s a) (op:BinOp) (t u:TypeId) (x y:Operand) (ho:o.op=.binOp op t x y u) {p q v:AV} (hx:bQ E s.ab x=.v p) (hy:bQ E s.ab y=.v q) (hv:EY op p q=some (true,v)) :
  cz E R w β s a o (s.put o.dst (.v v)):=by
 have rx:=aY h x;have ry:=aY h y;rw [hx] at rx;rw [hy] at ry;have fe:Rel R w p (a.eval x):=rx;have sx:Rel R w q (a.eval y):=ry;have key:∃ c,(do eqGuard op t x y (a.eval x) (a.eval y); binOp op t (a.eval x) (a.eval y):Sem Value).run E.P w=.ok c w∧Rel R w v c:=by
  generalize gE:a.eval x=xv at fe;generalize hyv:a.eval y=yv at sx;unfold EY at hv;split at hv
  ·rename_i k n k' m;cases fe;cases sx;simp only [aau,K0,aad];split at hv
   ·injection hv with hv;injection hv with h1 h2;subst h2;have hm:=of_decide_eq_true h1;have XQ:¬ m < 0:=by omega
    exact ⟨.int k (k.wrap (n * 2 ^ (min m.toNat k.bits))),by simp [binOp,Op.shift,XQ],.int _ _⟩
   ·injection hv with hv;injection hv with h1 h2;subst h2;have hm:=of_decide_eq_true h1;have XQ:¬ m < 0:=by omega
    exact ⟨.int k (n.fdiv (2 ^ (min m.toNat k.bits))),by simp [binOp,Op.shift,XQ],.int _ _⟩
   ·rename_i WE hs2;split at hv
    ·rename_i MP;subst MP;split at hv
     ·cases hv; exact ⟨.int k (k.wrap (n+m)),by simp [binOp,abI],.int _ _⟩
     ·cases hv; exact ⟨.int k (k.wrap (n - m)),by simp [binOp,abI],.int _ _⟩
     ·cases hv; exact ⟨.int k (k.wrap (n * m)),by simp [binOp,abI],.int _ _⟩
     ·injection hv with hv;injection hv with h1 h2;subst h2;have hm:¬ m=0:=by simpa using h1
      exact ⟨.int k (k.wrap (n.tdiv m)),by simp [binOp,Op.intDiv,hm],.int _ _⟩
     ·injection hv with hv;injection hv with h1 h2;subst h2;have hm:¬ m=0:=by simpa using h1
      exact ⟨.int k (n.tmod m),by simp [binOp,Op.intDiv,hm],.int _ _⟩
     ·cases hv; exact ⟨.int k (BE k n m),by simp [binOp,Op.intBits,BE],.int _ _⟩
     ·cases hv; exact ⟨.int k (orI k n m),by simp [binOp,Op.intBits,orI],.int _ _⟩
     ·cases hv; exact ⟨.int k (KR k n m),by simp [binOp,Op.intBits,KR],.int _ _⟩
     ·cases hv; exact ⟨.bool (n == m),by simp [binOp,abB],.bool _⟩
     ·cases hv; exact ⟨.bool (n != m),by simp [binOp,abB],.bool _⟩
     ·cases hv; exact ⟨.bool (decide (n < m)),by simp [binOp,abB],.bool _⟩
     ·cases hv; exact ⟨.bool (decide (n≤m)),by simp [binOp,abB],.bool _⟩
     ·cases hv; exact ⟨.bool (decide (n > m)),by simp [binOp,abB],.bool _⟩
     ·cases hv; exact ⟨.bool (decide (n≥m)),by simp [binOp,abB],.bool _⟩
     ·cases hv
    ·cases hv
  ·rename_i l r;cases fe;cases sx;simp only [aau,K1,aad];split at hv
   ·injection hv with hv;injection hv with h1 h2;subst h2;have hm:=of_decide_eq_true h1;refine ⟨.string ⟨⟨l++r⟩⟩,?_,.str _⟩;have XR:¬ ((l.length+r.length:Nat):Int) > IntKind.i64.max:=by
     have:IntKind.i64.max=9223372036854775807:=by decide
     omega
    simp only [binOp,abr,size_bytes,if_neg XR,DD,aaY]
   ·cases hv; exact ⟨.bool (l == r),by simp [binOp,abr],.bool _⟩
   ·cases hv; exact ⟨.bool (!(l == r)),by simp [binOp,abr],.bool _⟩
   ·cases hv; exact ⟨.bool (abG l r),by simp [binOp,abr],.bool _⟩
   ·cases hv; exact ⟨.bool (abG l r || l == r),by simp [binOp,abr],.bool _⟩
   ·cases hv; exact ⟨.bool (!(abG l r || l == r)),by simp [binOp,abr],.bool _⟩
   ·cases hv; exact ⟨.bool (!(abG l r)),by simp [binOp,abr],.bool _⟩
   ·cases hv
  ·cases hv
 obtain ⟨c,k1,k2⟩:=key;refine ap h (c:=c) ?_ k2;simp only [aau] at k1;simp only [execOp,ho,aau,k1,aad,aaY]
theorem lO {t:TypeId} {i:TypeInfo} {u:TypeDesc} (h1:E.P.info? t=some i) (h2:E.P.underlying t=some u) {off:Nat} {cs:List AV} {vs:List Value} {v:AV} (hr:aP R w cs vs) (h3:∀ x∈vs,x.oneCell'=true)
  (h:Jk (kX u) off i.size cs=some v):∃ c,(part t ⟨vs⟩ off).run E.P w=.ok c w∧Rel R w v c:=by
 unfold Jk at h;cases ha:kX u with
 |true=>
  rw [ha] at h;simp only [if_true] at h;split at h
  ·rename_i l hl;exact oh h1 h2 hr h3 (fun _=>⟨hl,h⟩) (fun e=>by rw [ha] at e; cases e)
  ·cases h
 |false=>
  rw [ha] at h;simp only [abA,if_false] at h;split at h
  ·rename_i l hl;exact oh h1 h2 hr h3 (fun e=>by rw [ha] at e; cases e) (fun _=>⟨hl,h⟩)
  ·cases h
theorem E3 {ek:TypeId→EK} {d:Nat} (ih:∀ (t:TypeId) (a b:AV) (r:Bool) (x y:Value),mO (ek t) a b=some r→Rel R w a x→Rel R w b y→(abN d t x y).run E.P w=.ok r w) {xs ys:List AV} {vs us:List Value}
  (hx:aP R w xs vs) (xK:∀ x∈vs,x.oneCell'=true) (hy:aP R w ys us) (RV:∀ x∈us,x.oneCell'=true) :
  ∀ (fs:List Field) (l:Wy) (r:Bool),Hk E.P ek fs=some l→vl l xs ys=some r→(Op.eqFields d ⟨vs⟩ ⟨us⟩ fs).run E.P w=.ok r w
 |[],l,r,hl,hr=>by
  simp [Hk] at hl;subst hl;simp [vl] at hr;subst hr;rfl
 |f :: fs,l,r,hl,hr=>by
  unfold Hk at hl;split at hl
  ·cases hl
  ·rename_i hn;split at hl
   ·rename_i i u l' h1 h2 h3;cases hl;unfold vl at hr;split at hr
    ·rename_i a b ha hb;split at hr
     ·rename_i p q hp hq;cases hr;obtain ⟨c,k1,k2⟩:=lO h1 h2 hx xK ha;obtain ⟨c',k3,k4⟩:=lO h1 h2 hy RV hb;have cK : f.name ≠ "_" := by simpa using hn
      have he:=ih f.type a b p c c' hp k2 k4;have zg:=E3 ih hx xK hy RV fs l' q h3 hq;simp only [Op.eqFields,cK,ne_eq,not_false_eq_true,if_true,aau,k1,k3,he,aad];cases p with
      |true=>simp [zg]
      |false=>simp
     ·cases hr
    ·cases hr
   ·cases hl
theorem Cj {ek:EK} {d:Nat} {e:TypeId} {i:TypeInfo} {u:TypeDesc} (h1:E.P.info? e=some i) (h2:E.P.underlying e=some u) (ih:∀ (a b:AV) (r:Bool) (x y:Value),mO ek a b=some r→Rel R w a x→Rel R w b y→(abN d e x y).run E.P w=.ok r w) {xs ys:List AV} {vs us:List Value}
  (hx:aP R w xs vs) (xK:∀ x∈vs,x.oneCell'=true) (hy:aP R w ys us) (RV:∀ x∈us,x.oneCell'=true) :
  ∀ (m k:Nat) (r:Bool),vl (yT i.size (kX u) ek m k) xs ys=some r→(Op.eqItems d e i.size ⟨vs⟩ ⟨us⟩ (List.range' k m)).run E.P w=.ok r w
 |0,k,r,hr=>by
  simp [yT,vl] at hr;subst hr;rfl
 |m+1,k,r,hr=>by
  unfold yT vl at hr;split at hr
  ·rename_i a b ha hb;split at hr
   ·rename_i p q hp hq;cases hr;obtain ⟨c,k1,k2⟩:=lO h1 h2 hx xK ha;obtain ⟨c',k3,k4⟩:=lO h1 h2 hy RV hb;have he:=ih a b p c c' hp k2 k4;have zg:=Cj h1 h2 ih hx xK hy RV m (k+1) q hq;simp only [List.range'_succ,Op.eqItems,aau,k1,k3,he,aad];cases p with
    |true=>simpa using zg
    |false=>simp
   ·cases hr
  ·cases hr
theorem DE:∀ (n d:Nat),n≤d→∀ (t:TypeId) (a b:AV) (r:Bool) (x y:Value),mO (sh E.P n t) a b=some r→Rel R w a x→Rel R w b y→(abN d t x y).run E.P w=.ok r w
 |0,_,_,t,a,b,r,x,y,h,_,_=>by simp [sh,mO] at h
 |n+1,0,hd,_,_,_,_,_,_,_,_,_=>by omega
 |n+1,d+1,hd,t,a,b,r,x,y,h,hx,hy=>by
  unfold sh at h;split at h
  ·rename_i hu;unfold mO at h;split at h
   all_goals (try contradiction)
   cases hx; cases hy; cases h;exact run_equalIn_bool' w d t _ _ hu
  ·rename_i k hu;unfold mO at h;split at h
   all_goals (try contradiction)
   split at h
   ·rename_i hk;subst hk;cases hx; cases hy; cases h;exact run_equalIn_int w d t _ k _ _ hu
   ·cases h
  ·rename_i hu;unfold mO at h;split at h
   all_goals (try contradiction)
   cases hx; cases hy; cases h;rw [run_equalIn_string w d t _ _ hu,tU,tU]
  ·rename_i fs hu;split at h
   ·simp [mO] at h
   ·rename_i hs;split at h
    ·rename_i l hl;unfold mO at h;split at h
     all_goals (try contradiction)
     rename_i XS xs ys hk;cases hk;cases hx with
     |agg hx xK=>
     cases hy with
     |agg hy RV=>
     have hf:E.P.fieldsOf t=fs:=by simp [Program.fieldsOf,hu]
     rw [run_equalIn_struct w d t _ _ (by rw [hf]; exact hu) (by simpa using hs),hf];exact E3 (fun t a b r x y=>DE n d (by omega) t a b r x y) hx xK hy RV fs.toList _ r hl h
    ·simp [mO] at h
  ·rename_i m e hu;split at h
   ·rename_i i ud g1 g2;unfold mO at h;split at h
    all_goals (try contradiction)
    rename_i XS xs ys hk;cases hk;cases hx with
    |agg hx xK=>
    cases hy with
    |agg hy RV=>
    have rJ:E.P.cellsOf e=i.size:=by simp [Program.cellsOf,g1]
    rw [run_equalIn_array (P:=E.P) w d _ _ hu g1,rJ,List.range_eq_range'];exact Cj g1 g2 (fun a b r x y=>DE n d (by omega) e a b r x y) hx xK hy RV m 0 r h
   ·simp [mO] at h
  ·simp [mO] at h
theorem lP {t:TypeId} {i:TI} (hi:E.ti t=some i) {p q:AV} {r:Bool} {x y:Value} (h:mO i.ek p q=some r) (hx:Rel R w p x) (hy:Rel R w q y) :
  (abN 10000 t x y).run E.P w=.ok r w∧((∃ b c,x=.bool b∧y=.bool c)∨(∃ k n k' m,x=.int k n∧y=.int k' m)∨(∃ n m,x=.string n∧y=.string m)∨(∃ n m,x=.agg n∧y=.agg m∧E.P.eqGuardType E.P.depth t=false)):=by
 have Ck:i.ek=wH E.P t:=by
  have:=E.KQ t i hi;unfold KP at this;split at this
  ·split at this
   ·cases this; rfl
   ·cases this
  ·cases this
 rw [Ck] at h;have hg:mO (sh E.P 6 t) p q=some r∧((∃ l,sh E.P 6 t=.st l)→E.P.eqGuardType E.P.depth t=false):=by
  unfold wH at h;split at h
  ·rename_i l hl;split at h
   ·simp [mO] at h
   ·rename_i K4;exact ⟨by rw [hl]; exact h,fun _=>by simpa using K4⟩
  ·rename_i k hk;exact ⟨h,fun ⟨l,hl⟩=>absurd hl (hk l)⟩
 refine ⟨DE 6 10000 (by omega) t p q r x y hg.1 hx hy,?_⟩;have h2:=hg.1;have h3:=hg.2;generalize sh E.P 6 t=k at h2 h3;unfold mO at h2;split at h2
 ·cases hx; cases hy; exact .inl ⟨_,_,rfl,rfl⟩
 ·cases hx; cases hy; exact .inr (.inl ⟨_,_,_,_,rfl,rfl⟩)
 ·cases hx; cases hy; exact .inr (.inr (.inl ⟨_,_,rfl,rfl⟩))
 ·cases hx; cases hy; exact .inr (.inr (.inr ⟨_,_,rfl,rfl,h3 ⟨_,rfl⟩⟩))
 ·cases h2
theorem MQ (h:bq E R w β s a) (op:BinOp) (t u:TypeId) (x y:Operand) (ho:o.op=.binOp op t x y u) {p q:AV} {r:Bool} (hx:bQ E s.ab x=.v p) (hy:bQ E s.ab y=.v q) (hb:EY op p q=none) (hv:eqO E op t p q=some r) :
  cz E R w β s a o (s.put o.dst (.v (.bool r))):=by
 have rx:=aY h x;have ry:=aY h y;rw [hx] at rx;rw [hy] at ry;have fe:Rel R w p (a.eval x):=rx;have sx:Rel R w q (a.eval y):=ry;have key:(do eqGuard op t x y (a.eval x) (a.eval y); binOp op t (a.eval x) (a.eval y):Sem Value).run E.P w=.ok (.bool r) w:=by
  generalize gE:a.eval x=xv at fe;generalize hyv:a.eval y=yv at sx;unfold eqO at hv;split at hv
  ·rename_i i hi;obtain ⟨k1,k2⟩:=lP hi hv fe sx;rcases k2 with ⟨b,c,rfl,rfl⟩|⟨k,n,k',m,rfl,rfl⟩|⟨n,m,rfl,rfl⟩|⟨n,m,rfl,rfl,hg⟩
   ·have HA:(eqGuard .eql t x y (.bool b) (.bool c)).run E.P w=.ok () w:=rfl;simp [HA,binOp,Op.equal,Op.maxDepth,k1]
   ·cases fe; cases sx; simp [EY] at hb;cases hk:i.ek <;> simp [hk,mO] at hv;exact absurd hv.1 hb
   ·cases fe; cases sx; simp [EY] at hb
   ·simp only [aau,run_eqGuard_agg w _ t x y n m hg,aad,run_eql_struct,k1]
  ·rename_i i hi;split at hv
   ·rename_i r' nF;cases hv;obtain ⟨k1,k2⟩:=lP hi nF fe sx;rcases k2 with ⟨b,c,rfl,rfl⟩|⟨k,n,k',m,rfl,rfl⟩|⟨n,m,rfl,rfl⟩|⟨n,m,rfl,rfl,hg⟩
    ·have HA:(eqGuard .neq t x y (.bool b) (.bool c)).run E.P w=.ok () w:=rfl;simp [HA,binOp,Op.equal,Op.maxDepth,k1]
    ·cases fe; cases sx; simp [EY] at hb;cases hk:i.ek <;> simp [hk,mO] at nF;exact absurd nF.1 hb
    ·cases fe; cases sx; simp [EY] at hb
    ·simp only [aau,run_eqGuard_agg w _ t x y n m hg,aad,run_neq_struct,k1]
   ·cases hv
  ·cases hv
 refine ap h (c:=.bool r) ?_ (.bool r);simp only [aau] at key;simp only [execOp,ho,aau,key,aad,aaY]
theorem MR (h:bq E R w β s a) (t:TypeId) (x:Operand) (ho:o.op=.unOp .not t x) {b:Bool} (hx:bQ E s.ab x=.v (.bool b)):cz E R w β s a o (s.put o.dst (.v (.bool (!b)))):=by
 have rx:=aY h x;rw [hx] at rx;have fe:Rel R w (.bool b) (a.eval x):=rx;generalize gE:a.eval x=xv at fe;cases fe;refine ap h (c:=.bool (!b)) ?_ (Rel.bool _);simp [execOp,ho,Op.unary,gE]
theorem MS (h:bq E R w β s a) (t:TypeId) (x:Operand) (ho:o.op=.unOp .neg t x) {k:IntKind} {n:Int} (hx:bQ E s.ab x=.v (.int k n)):cz E R w β s a o (s.put o.dst (.v (.int k (k.wrap (0 - n))))):=by
 have rx:=aY h x;rw [hx] at rx;have fe:Rel R w (.int k n) (a.eval x):=rx;generalize gE:a.eval x=xv at fe;cases fe;refine ap h (c:=.int k (k.wrap (0 - n))) ?_ (Rel.int _ _);simp [execOp,ho,Op.unary,abI,gE]
theorem Cl:∀ (us:List Value) (off j0:Nat) (cells:Array Value),off+j0+us.length≤cells.size →
  ((us.zipIdx j0).foldl (fun (cs:Array Value) (p:Value × Nat)=>cs.setIfInBounds (off+p.2) p.1) cells).toList=cells.toList.take (off+j0)++us++cells.toList.drop (off+j0+us.length)
 |[],off,j0,cells,_=>by simp
 |u :: us,off,j0,cells,h=>by
  have bY:off+j0 < cells.size:=by simp at h; omega
  have ih:=Cl us off (j0+1) (cells.setIfInBounds (off+j0) u) (by simp at h ⊢; omega);simp only [List.zipIdx_cons,List.foldl_cons];rw [ih];have e:=list_seg_step cells.toList (off+j0) u us (by simp at h ⊢; omega);simpa [Array.toList_setIfInBounds,abD] using e
theorem qt (place:Nat→Option (Nat × Nat)):∀ {ps:List (Nat × AV)} {qs:List (Nat × Value)} {cells zh:List AV} {vs:List Value},
  aP R w (ps.map (·.2)) (qs.map (·.2))→ps.map (·.1)=qs.map (·.1)→aP R w cells vs→(∀ x∈vs,x.oneCell'=true)→wI place cells ps=some zh →
  ∃ us,abE place ⟨vs⟩ qs=some ⟨us⟩∧aP R w zh us∧∀ x∈us,x.oneCell'=true
 |[],qs,cells,zh,vs,h1,h2,h3,h4,h5=>by
  have:qs=[]:=by simpa using h2.symm
  subst this;simp [wI] at h5;subst h5;exact ⟨vs,rfl,h3,h4⟩
 |(i,v) :: ps,[],cells,zh,vs,h1,h2,h3,h4,h5=>by simp at h2
 |(i,v) :: ps,(j,c) :: qs,cells,zh,vs,h1,h2,h3,h4,h5=>by
  simp only [abQ,List.cons.injEq] at h2;obtain ⟨rfl,h2⟩:=h2;cases h1 with
  |cons hr h1=>
  unfold wI at h5;split at h5
  ·cases h5
  ·rename_i off sz hp;split at h5
   ·rename_i gN;simp only [aao] at gN;obtain ⟨⟨Rk,hlen⟩,hle⟩:=gN;have hlen:=aaO hlen;have hle:=aaB hle;obtain ⟨c1,c2⟩:=Rel.cells hr Rk;have Jr:c.cells.toList.length=sz:=by rw [← c1.length]; exact hlen
    have hb:off+v.cells.length≤cells.length:=by omega
    obtain ⟨us,u1,u2,u3⟩:=qt place h1 h2 (h3.cu c1 hb) (kd h4 c2) h5;refine ⟨us,?_,u2,u3⟩;have gi:c.cells.size=sz:=by simpa using Jr
    have WG:vs.length=cells.length:=h3.length.symm;have Cm:c.cells.zipIdx.foldl (fun (cs:Array Value) (x:Value × Nat)=>cs.setIfInBounds (off+x.2) x.1) ⟨vs⟩=⟨vs.take off++c.cells.toList++vs.drop (off+c.cells.toList.length)⟩:=by
     apply aby;rw [← Array.foldl_toList,Array.toList_zipIdx];have:=Cl c.cells.toList off 0 ⟨vs⟩ (by simp only [List.size_toArray]; omega);simpa using this
    have c8:(c.cells.size≠sz || decide (off+c.cells.size > (⟨vs⟩:Array Value).size))=false:=by
     have WE:decide (c.cells.size≠sz)=false:=by simp [gi]
     have hs2:decide (off+c.cells.size > (⟨vs⟩:Array Value).size)=false:=by
      rw [decide_eq_false_iff_not,gi];show ¬ off+sz > vs.length;omega
     rw [WE,hs2];rfl
    unfold abE;simp only [hp,c8,abA,if_false];rw [← u1];exact congrArg (fun z=>abE place z qs) Cm
   ·cases h5
theorem yn (h:bq E R w β s a):∀ {l:List (Nat × Operand)} {ps:List (Nat × AV)},Rj E s.ab l=some ps →
  aP R w (ps.map (·.2)) ((l.map fun x=>(x.1,a.eval x.2)).map (·.2))∧ps.map (·.1)=(l.map fun x=>(x.1,a.eval x.2)).map (·.1)
 |[],ps,hl=>by simp [Rj] at hl; subst hl; exact ⟨.nil,rfl⟩
 |(i,x) :: l,ps,hl=>by
  unfold Rj at hl;split at hl
  ·rename_i v r h1 h2;cases hl;have hx:=aY h x;rw [h1] at hx;obtain ⟨g1,g2⟩:=yn h h2;exact ⟨.cons hx g1,by simpa using g2⟩
  ·cases hl
theorem HB (h:bq E R w β s a) (t:TypeId) (parts:Array (Nat × Operand)) (ho:o.op=.build t parts) {v:AV} (hv:oS E s t parts.toList=some v) :
  cz E R w β s a o (s.put o.dst (.v v)):=by
 unfold oS at hv;split at hv
 ·rename_i i ps hi Ms;split at hv
  ·rename_i z hz;split at hv
   ·rename_i cs rJ;split at hv
    ·rename_i DB;cases hv;simp only [aao] at DB;obtain ⟨DB,tF⟩:=DB;obtain ⟨je,u,e1,e2,e3,e4,e5,e6⟩:=cJ E hi;rw [hz] at e6;obtain ⟨zc,vf,Hc⟩:=dR e6;obtain ⟨p1,p2⟩:=yn h Ms;obtain ⟨c1,c2⟩:=Rel.cells (Hc R w) tF;have XU:(parts.map fun (x:Nat × Operand)=>(x.1,a.eval x.2)).toList=parts.toList.map fun x=>(x.1,a.eval x.2):=by simp
     have key:∃ us,E.P.built t (parts.toList.map fun x=>(x.1,a.eval x.2))=some ⟨us⟩∧aP R w cs us∧∀ x∈us,x.oneCell'=true:=by
      cases u <;> simp only [kX] at e4 <;> first | (rw [DB] at e4; cases e4; done) | skip
      ·rename_i n e;simp only [sf] at e5;split at e5
       ·rename_i ie ue f1 f2;injection e5 with e5;rw [← e5] at rJ;obtain ⟨us,u1,u2,u3⟩:=qt (R:=R) (w:=w) _ p1 p2 c1 c2 rJ;refine ⟨us,?_,u2,u3⟩;unfold Program.built;simp only [e1,e2,vf,f1];rw [← u1];rfl
       ·cases e5
      ·rename_i fs;simp only [sf] at e5;split at e5
       ·rename_i l hl;injection e5 with e5;rw [← e5] at rJ;obtain ⟨us,u1,u2,u3⟩:=qt (R:=R) (w:=w) _ p1 p2 c1 c2 rJ;refine ⟨us,?_,u2,u3⟩;unfold Program.built;simp only [e1,e2,vf,pZ hl];rw [← u1];have hpl:placeOf (.st l)=fun j=>(l.map fun x=>(x.1,x.2.1)).toArray[j]?:=by
         funext j;simp only [placeOf,bj,List.getElem?_toArray,List.getElem?_map];cases l[j]? <;> rfl
        rw [hpl]
       ·cases e5
     obtain ⟨us,u1,u2,u3⟩:=key;refine ap h (c:=.agg ⟨us⟩) ?_ (Rel.agg u2 u3);have bK:=run_build (P:=E.P) w t (parts.map fun (x:Nat × Operand)=>(x.1,a.eval x.2)) ⟨us⟩ (by rw [XU]; exact u1);simp only [execOp,ho,aau,bK,aad,aaY]
    ·cases hv
   ·cases hv
  ·cases hv
 ·cases hv
end ops
end Go.Am
namespace Go.Am
open Go
theorem dw (l r:List AV):aq (l++r)=aq l++aq r:=by
 induction l with
 |nil=>rfl
 |cons e l ih=>simp [aq,ih]
theorem fg {sz:Nat} {es:List AV} (h:kz sz es):(aq es).length=es.length * sz:=by
 induction es with
 |nil=>simp [aq]
 |cons e es ih=>
  have h1:=(h e (by simp)).1;have:=ih (fun x hx=>h x (by simp [hx]));simp only [aq,abC,this,h1,List.length_cons,abu];omega
section rel
variable {R:ak} {w:World}
theorem om {b sz:Nat}:∀ {es:List AV} {o:Nat},kz sz es→fk R w b o (aq es)→iu R w b o sz es
 |[],_,_,_=>.nil
 |e :: es,o,h,hc=>by
  obtain ⟨h1,h2,h3⟩:=h e (by simp);obtain ⟨vs,k1,k2,k3,k4⟩:=hc.get;have hd:=hc.drop sz;have aco:(aq (e :: es)).drop sz=aq es:=by simp only [aq]; rw [← h1,List.drop_left]
  have MT:(aq (e :: es)).take sz=e.cells:=by simp only [aq]; rw [← h1,List.take_left]
  rw [aco] at hd;refine .cons h1 h2 h3 ?_ (om (fun x hx=>h x (by simp [hx])) hd);have kt:=k1.take sz;rw [MT] at kt;refine .make kt (fun v hv=>k2 v (abx hv)) (fun j v hv=>k3 j v ?_) (fun j hj=>k4 j ?_)
  ·rw [List.getElem?_take] at hv;split at hv
   ·exact hv
   ·cases hv
  ·simp only [aq,abC];omega
theorem zi {b sz:Nat}:∀ {es:List AV} {o:Nat},iu R w b o sz es→kz sz es∧∃ vs,aP R w (aq es) vs∧(∀ v∈vs,v.oneCell'=true)∧(∀ j v,vs[j]?=some v→w.cell? ⟨b,o+j,none⟩=some v)∧∀ j,j < es.length * sz→R.I b (o+j)
 |[],o,_=>⟨fun e he=>by simp at he,[],.nil,by simp,by simp,by simp⟩
 |e :: es,o,h=>by
  cases h with
  |cons hl ht hk hc t=>
   obtain ⟨g0,vs,g1,g2,g3,g4⟩:=zi t;obtain ⟨us,f1,f2,f3,f4⟩:=hc.get;have hlen:us.length=sz:=by rw [← f1.length,hl]
   refine ⟨fun x hx=>?_,us++vs,f1.append g1,fun v hv=>?_,fun j v hv=>?_,fun j hj=>?_⟩
   ·rcases List.mem_cons.1 hx with rfl|hx
    ·exact ⟨hl,ht,hk⟩
    ·exact g0 x hx
   ·rcases abH.1 hv with hv|hv
    ·exact f2 v hv
    ·exact g2 v hv
   ·by_cases hj:j < sz
    ·rw [List.getElem?_append_left (by omega)] at hv;exact f3 j v hv
    ·rw [List.getElem?_append_right (by omega),hlen] at hv;have:=g3 _ v hv;rwa [show o+sz+(j - sz)=o+j by omega] at this
   ·by_cases Rn:j < sz
    ·exact f4 j (by omega)
    ·have:=g4 (j - sz) (by simp only [List.length_cons,abu] at hj; omega);rwa [show o+sz+(j - sz)=o+j by omega] at this
theorem Cn {b sz:Nat}:∀ (n:Nat) {es:List AV} {o:Nat},iu R w b o sz es→iu R w b (o+n * sz) sz (es.drop n)
 |0,es,o,h=>by simpa using h
 |n+1,[],o,h=>by simpa using iu.nil
 |n+1,e :: es,o,h=>by
  cases h with
  |cons hl ht hk hc t=>
   have:=Cn n t;rw [show o+sz+n * sz=o+(n+1) * sz by rw [abu]; omega] at this;simpa using this
theorem vr {b sz:Nat}:∀ (n:Nat) {es:List AV} {o:Nat},iu R w b o sz es→iu R w b o sz (es.take n)
 |0,es,o,h=>by simpa using iu.nil
 |n+1,[],o,h=>by simpa using iu.nil
 |n+1,e :: es,o,h=>by
  cases h with
  |cons hl ht hk hc t=>simpa using iu.cons hl ht hk hc (vr n t)
end rel
theorem gZ {sz n:Nat} {z:AV} (h1:z.cells.length=sz) (h2:z.ba=true) (h3:z.closed=true):kz sz (abn n z):=fun e he=>by
 rw [List.mem_replicate] at he;rw [he.2];exact ⟨h1,h2,h3⟩
theorem zj {sz:Nat}:∀ {es:List AV} {i:Nat} {v:AV},kz sz es→i < es.length→v.cells.length=sz→aq (aG es i v)=cu (aq es) (i * sz) v.cells
 |[],i,v,_,h,_=>by simp at h
 |e :: es,0,v,h,_,hv=>by
  have h1:=(h e (by simp)).1;simp only [aG,aq,abT];rw [fY _ 0 _ (by simp; omega)];simp only [List.take_zero,List.nil_append,Nat.zero_add];rw [hv,← h1,List.drop_left]
 |e :: es,i+1,v,h,hi,hv=>by
  have h1:=(h e (by simp)).1;have Mt:kz sz es:=fun x hx=>h x (by simp [hx])
  have ih:=zj (i:=i) (v:=v) Mt (by simpa using hi) hv;have bY:i < es.length:=by simpa using hi
  have hle:i * sz+sz≤es.length * sz:=by rw [← abU]; exact abO _ bY
  have hl:=fg Mt;simp only [aG,aq];have e1:(i+1) * sz=e.cells.length+i * sz:=by rw [h1,abU]; omega
  have e2:List.take (e.cells.length+i * sz) e.cells=e.cells:=List.take_of_length_le (by omega);rw [ih,fY _ _ _ (by omega),e1,fY _ _ _ (by simp only [abC]; omega)];rw [List.take_append,e2,abD,List.drop_append,List.drop_of_length_le (by omega:e.cells.length≤e.cells.length+(i * sz+v.cells.length))];simp [Nat.add_sub_cancel_left]
theorem K5 {sz:Nat} {es:List AV} {i:Nat} {v:AV} (h:kz sz es) (h1:v.cells.length=sz) (h2:v.ba=true) (h3:v.closed=true):kz sz (aG es i v):=fun e he=>by
 rw [iw] at he;rcases List.mem_or_eq_of_mem_set he with he|rfl
 ·exact h e he
 ·exact ⟨h1,h2,h3⟩
theorem wM {sz:Nat}:∀ {ps:List (Nat × AV)} {es es':List AV},EZ sz es ps=some es'→kz sz es →
  wI (fun i=>some (i * sz,sz)) (aq es) ps=some (aq es')∧kz sz es'∧es'.length=es.length
 |[],es,es',h,hk=>by simp [EZ] at h; subst h; exact ⟨rfl,hk,rfl⟩
 |(i,v) :: ps,es,es',h,hk=>by
  unfold EZ at h;split at h
  ·rename_i hc;simp only [aao] at hc;obtain ⟨⟨⟨hn,hl⟩,hi⟩,Co⟩:=hc;have hl':=aaO hl;have sS:=aaB hi;obtain ⟨g1,g2,g3⟩:=wM h (K5 hk hl' hn Co);refine ⟨?_,g2,by simpa using g3⟩;unfold wI;have hle:Nat.ble (i * sz+sz) (aq es).length=true:=by
    apply Nat.ble_eq_true_of_le;rw [fg hk,← abU];exact abO _ sS
   simp only [hn,hl,hle,Bool.and_self,if_true];rw [← zj hk (by omega) hl'];exact g1
  ·cases h
section ops
variable {E:Env} {R:ak} {w:World} {β:Nat→Nat} {s:St} {a:Act} {o:Oper}
def ak.imm (R:ak) (b:Nat):ak:=⟨fun b' o=>R.I b' o∨b'=b,R.obj⟩
theorem DF (wf:∀ b o,R.I b o→b < w.heap.size) (x:Obj):Ext R w (R.imm w.heap.size) (w.alloc x):=
 ⟨fun _ _ h=>.inl h,fun b o h=>cm (heap_alloc_old w x b (wf b o h)) o,fun _ ro h=>⟨ro,h,cV.refl ro⟩,.old fun b hb=>heap_alloc_old w x b hb⟩
theorem bq.imm (h:bq E R w β s a) (x:Obj):bq E (R.imm w.heap.size) (w.alloc x) β s a:=
 h.bJ (DF h.g.wf x) rfl (fun b hb=>heap_alloc_old w x b (h.fE hb)) (fun b o hb hi=>by
  rcases hi with hi|hi
  ·exact hi
  ·have:=h.fE hb;omega) (fun b o hi=>by
  rcases hi with hi|hi
  ·have:=h.g.wf b o hi;simp;omega
  ·simp;omega)
theorem MU (h:bq E R w β s a) (x:Obj):Step R w β s.boxes (R.imm w.heap.size) (w.alloc x) β s.boxes:=
 ⟨DF h.g.wf x,rfl,rfl,rfl,by simp,fun b hb _=>heap_alloc_old w x b hb,fun _ _ ho=>ho,fun b o hi hb _=>by
  rcases hi with hi|hi
  ·exact hi
  ·omega⟩
theorem qu (z:Array Value):∀ (n:Nat),(((abz (n * z.size)).map fun i=>z[i % z.size]!)).toList=(abn n z.toList).flatten
 |0=>by simp
 |n+1=>by
  have ih:=qu z n;simp only [Array.toList_map,Array.toList_range] at ih ⊢;rw [abu,Nat.one_mul,List.range_add,List.map_append,ih,List.replicate_succ',List.flatten_append];congr 1;simp only [List.map_map,List.flatten_cons,List.flatten_nil,List.append_nil];apply List.ext_getElem?;intro i;by_cases hi:i < z.size
  ·simp only [List.getElem?_map,List.getElem?_range hi,Option.map_some,Function.comp_apply];rw [Nat.mul_comm n,Nat.mul_add_mod,Nat.mod_eq_of_lt hi];simp [hi]
  ·rw [abK (by simp; omega),abK (by simp; omega)]
theorem oo {z:AV} {c:Value} (hr:Rel R w z c) (hn:z.ba=true):∀ (n:Nat),aP R w (aq (abn n z)) (abn n c.cells.toList).flatten∧∀ v∈(abn n c.cells.toList).flatten,v.oneCell'=true
 |0=>by simp [aq]; exact .nil
 |n+1=>by
  obtain ⟨c1,c2⟩:=Rel.cells hr hn;obtain ⟨h1,h2⟩:=oo hr hn n;refine ⟨?_,fun v hv=>?_⟩
  ·simpa [abR,aq] using c1.append h1
  ·simp only [abR,List.flatten_cons,abH] at hv;rcases hv with hv|hv
   ·exact c2 v hv
   ·exact h2 v hv
theorem vt:∀ {ps:List (Nat × AV)} {us:List Value},aP R w (ps.map (·.2)) us→aP R w ((Cc ps).map (·.2)) us
 |[],_,h=>h
 |(_,_) :: _,_,.cons h t=>.cons h.jc (vt t)
theorem vu:∀ (ps:List (Nat × AV)),(Cc ps).map (·.1)=ps.map (·.1)
 |[]=>rfl
 |(i,v) :: l=>by simp [Cc,vu l]
theorem jL (h:bq E R w β s a) (t:TypeId) (len:Nat) (parts:Array (Nat × Operand)) (ho:o.op=.buildSlice t len parts) {v:AV} (hv:cn E s t len parts.toList=some v) :
  ∃ es esz us elem,v=.list .full esz es∧(execOp a.eval o).run E.P w=.ok (.value (.slice (some ⟨w.heap.size,0,none⟩) len len)) (w.alloc (.cells ⟨us⟩ elem))∧kz esz es∧es.length=len∧aP R w (aq es) us∧(∀ x∈us,x.oneCell'=true)∧∃ i ag qp z,E.ti t=some i∧i.k=.sl elem esz ag qp z:=by
 unfold cn at hv;split at hv
 ·rename_i i ps hi Ms;split at hv
  ·rename_i elem esz ag qp z hk;split at hv
   ·rename_i hc;simp only [aao] at hc;obtain ⟨⟨⟨⟨K6,hz2⟩,hz3⟩,hz4⟩,hz5⟩:=hc;have K6:=aaO K6;have hz2:=aaB hz2;have hz3:=aaB hz3;split at hv
    ·rename_i es Mt;cases hv;obtain ⟨je,u,e1,e2,e3,e4,e5,e6⟩:=cJ E hi;rw [hk] at e5;obtain ⟨ie,ue,rfl,f1,f2,f3,f4,f5,f6⟩:=fB e5;obtain ⟨zc,vf,Hc⟩:=dR f6;have WH:=Hc R w;obtain ⟨c1,c2⟩:=Rel.cells WH hz4;have rJ:zc.cells.size=esz:=by rw [← K6,c1.length]; simp
     obtain ⟨p1,p2⟩:=yn h Ms;obtain ⟨z1,z2⟩:=oo WH hz4 len;obtain ⟨g1,g2,g3⟩:=wM Mt (gZ K6 hz4 hz5);obtain ⟨us,u1,u2,u3⟩:=qt (R:=R) (w:=w) _ (vt p1) ((vu ps).trans p2) z1 z2 g1;have XU:(parts.map fun (x:Nat × Operand)=>(x.1,a.eval x.2)).toList=parts.toList.map fun x=>(x.1,a.eval x.2):=by simp
     have zk:((abz (len * esz)).map fun i=>zc.cells[i % zc.cells.size]!)=⟨(abn len zc.cells.toList).flatten⟩:=by
      apply aby;rw [← rJ];exact qu zc.cells len
     have hlen:es.length=len:=by simpa using g3
     have bK:(abp t len (parts.map fun (x:Nat × Operand)=>(x.1,a.eval x.2))).run E.P w=.ok (.slice (some ⟨w.heap.size,0,none⟩) len len) (w.alloc (.cells ⟨us⟩ elem)):=by
      have K4:¬ len * esz > 2 ^ 24:=by omega
      by_cases h0:len * esz=0
      ·have zl:len=0:=by
        rcases Nat.mul_eq_zero.1 h0 with h0|h0 <;> omega
       subst zl;have u1':abE (fun i=>some (i * esz,esz)) #[] (parts.toList.map fun x=>(x.1,a.eval x.2))=some ⟨us⟩:=by simpa using u1
       simp only [abp,aau,run_underlying e2,aad,run_sizeOf w f1,f2];simp only [abT,gt_iff_lt,Nat.not_lt_zero,if_false,if_true,aau,aaY,aad,XU];have E4:∀ f:Nat→Value,Array.map f (abz 0)=#[]:=fun f=>by simp
       simp only [E4,u1',newRow,aau,run_newObj,aad,aaY];rfl
      ·simp only [abp,aau,run_underlying e2,aad,run_sizeOf w f1,f2];rw [if_neg K4,if_neg h0];simp only [aau,aaY,aad,iQ w f1 vf,XU,zk,u1,newRow,run_newObj];rfl
     exact ⟨es,esz,us,elem,rfl,by simp only [execOp,ho,aau,bK,aad,aaY],g2,hlen,u2,u3,i,ag,qp,_,hi,hk⟩
    ·cases hv
   ·cases hv
  ·cases hv
 ·cases hv
theorem xL (h:bq E R w β s a) (t:TypeId) (len:Nat) (parts:Array (Nat × Operand)) (ho:o.op=.buildSlice t len parts) {cs:List AV} (hv:lA E s t len parts.toList=some cs) :
  ∃ esz us elem,(execOp a.eval o).run E.P w=.ok (.value (.slice (some ⟨w.heap.size,0,none⟩) len len)) (w.alloc (.cells ⟨us⟩ elem))∧aP R w cs us∧(∀ x∈us,x.oneCell'=true)∧∃ i ag qp z,E.ti t=some i∧i.k=.sl elem esz ag qp z:=by
 unfold lA at hv;split at hv
 ·rename_i i ps hi Ms;split at hv
  ·rename_i elem esz ag qp z hk;split at hv
   ·rename_i hc;simp only [aao] at hc;obtain ⟨⟨⟨K6,hz2⟩,hz3⟩,hz4⟩:=hc;have K6:=aaO K6;have hz2:=aaB hz2;have hz3:=aaB hz3
    ·have g1:=hv;obtain ⟨je,u,e1,e2,e3,e4,e5,e6⟩:=cJ E hi;rw [hk] at e5;obtain ⟨ie,ue,rfl,f1,f2,f3,f4,f5,f6⟩:=fB e5;obtain ⟨zc,vf,Hc⟩:=dR f6;have WH:=Hc R w;obtain ⟨c1,c2⟩:=Rel.cells WH hz4;have rJ:zc.cells.size=esz:=by rw [← K6,c1.length]; simp
     obtain ⟨p1,p2⟩:=yn h Ms;obtain ⟨z1,z2⟩:=oo WH hz4 len;obtain ⟨us,u1,u2,u3⟩:=qt (R:=R) (w:=w) _ (vt p1) ((vu ps).trans p2) z1 z2 g1;have XU:(parts.map fun (x:Nat × Operand)=>(x.1,a.eval x.2)).toList=parts.toList.map fun x=>(x.1,a.eval x.2):=by simp
     have zk:((abz (len * esz)).map fun i=>zc.cells[i % zc.cells.size]!)=⟨(abn len zc.cells.toList).flatten⟩:=by
      apply aby;rw [← rJ];exact qu zc.cells len
     have bK:(abp t len (parts.map fun (x:Nat × Operand)=>(x.1,a.eval x.2))).run E.P w=.ok (.slice (some ⟨w.heap.size,0,none⟩) len len) (w.alloc (.cells ⟨us⟩ elem)):=by
      have K4:¬ len * esz > 2 ^ 24:=by omega
      by_cases h0:len * esz=0
      ·have zl:len=0:=by
        rcases Nat.mul_eq_zero.1 h0 with h0|h0 <;> omega
       subst zl;have u1':abE (fun i=>some (i * esz,esz)) #[] (parts.toList.map fun x=>(x.1,a.eval x.2))=some ⟨us⟩:=by simpa using u1
       simp only [abp,aau,run_underlying e2,aad,run_sizeOf w f1,f2];simp only [abT,gt_iff_lt,Nat.not_lt_zero,if_false,if_true,aau,aaY,aad,XU];have E4:∀ f:Nat→Value,Array.map f (abz 0)=#[]:=fun f=>by simp
       simp only [E4,u1',newRow,aau,run_newObj,aad,aaY];rfl
      ·simp only [abp,aau,run_underlying e2,aad,run_sizeOf w f1,f2];rw [if_neg K4,if_neg h0];simp only [aau,aaY,aad,iQ w f1 vf,XU,zk,u1,newRow,run_newObj];rfl
     exact ⟨esz,us,elem,by simp only [execOp,ho,aau,bK,aad,aaY],u2,u3,i,ag,qp,_,hi,hk⟩
   ·cases hv
  ·cases hv
 ·cases hv
theorem xM (h:bq E R w β s a) (t:TypeId) (len:Nat) (parts:Array (Nat × Operand)) (ho:o.op=.buildSlice t len parts) {v:AV} (hv:cn E s t len parts.toList=some v) :
  cz E R w β s a o (s.put o.dst (.v v)):=by
 obtain ⟨es,esz,us,elem,rfl,bK,g2,hlen,u2,u3,_⟩:=jL h t len parts ho hv;have e:=DF (R:=R) (w:=w) h.g.wf (.cells ⟨us⟩ elem);refine ⟨_,.slice (some ⟨w.heap.size,0,none⟩) len len,_,R.imm w.heap.size,β,bK,.inl rfl,(h.imm (.cells ⟨us⟩ elem)).put o.dst ?_,by rw [bf]; exact MU h _⟩;refine Rel.list (om g2 (fk.make (u2.mono e) u3 (fun j x hx=>?_) (fun j _=>.inr rfl))) hlen.symm (Nat.le_refl _) rfl;rw [kC (heap_alloc_new w _)];simpa using hx
theorem vv (h:bq E R w β s a) (t:TypeId) (len:Nat) (parts:Array (Nat × Operand)) (ho:o.op=.buildSlice t len parts) {cs:List AV} (hv:lA E s t len parts.toList=some cs) {i:TI} (hi:E.ti t=some i) {el:TypeId} {esz eb:Nat} {ag:Bool} {z:Option AV} (hk:i.k=.sl el esz ag eb z) :
  cz E R w β s a o ((s.fj (.row cs el)).put o.dst (.v (.lz s.G.length 0 esz len len))):=by
 obtain ⟨XV,us,elem,bK,u2,u3,i',ag',by',z',sS,jf⟩:=xL h t len parts ho hv;rw [hi] at sS;cases sS;rw [hk] at jf;cases jf;have e:=iV (R:=R) (w:=w) h.g.wf (.cells ⟨us⟩ el) (.ck w.heap.size);have jH:iP (R.add (.ck w.heap.size)) (w.alloc (.cells ⟨us⟩ el)) (.row cs el) (.ck w.heap.size):=
  ⟨_,heap_alloc_new w _,u2.mono e,u3,fun o' hi=>by have:=h.g.wf _ _ hi; omega⟩
 exact ⟨_,_,_,R.add (.ck w.heap.size),β,bK,.inl rfl,(h.nE _ _ _ (by exact fun _ h=>h) jH).put o.dst (x:=.v (.lz s.G.length 0 esz len len)) (Rel.lz (iy h _) (Nat.le_refl _)),by rw [bf]; exact dD h _ _ (by exact fun _ h=>h)⟩
theorem vw (h:bq E R w β s a) (t:TypeId) (len:Nat) (parts:Array (Nat × Operand)) (ho:o.op=.buildSlice t len parts) {k:LK} {esz:Nat} {es:List AV} (hv:cn E s t len parts.toList=some (.list k esz es)) {i:TI} (hi:E.ti t=some i) {el:TypeId} {bT eb:Nat} {ag:Bool} {z:Option AV} (hk:i.k=.sl el bT ag eb z) :
  cz E R w β s a o ((s.fj (.row (aq es) el)).put o.dst (.v (.lz s.G.length 0 esz len len))):=by
 obtain ⟨es',XV,us,elem,hve,bK,g2,hlen,u2,u3,i',ag',by',z',sS,jf⟩:=jL h t len parts ho hv;cases hve;rw [hi] at sS;cases sS;rw [hk] at jf;cases jf;have e:=iV (R:=R) (w:=w) h.g.wf (.cells ⟨us⟩ el) (.ck w.heap.size);have jH:iP (R.add (.ck w.heap.size)) (w.alloc (.cells ⟨us⟩ el)) (.row (aq es) el) (.ck w.heap.size):=
  ⟨_,heap_alloc_new w _,u2.mono e,u3,fun o' hi=>by have:=h.g.wf _ _ hi; omega⟩
 exact ⟨_,_,_,R.add (.ck w.heap.size),β,bK,.inl rfl,(h.nE _ _ _ (by exact fun _ h=>h) jH).put o.dst (x:=.v (.lz s.G.length 0 esz len len)) (Rel.lz (iy h _) (Nat.le_refl _)),by rw [bf]; exact dD h _ _ (by exact fun _ h=>h)⟩
end ops
end Go.Am
