/- The abstract machine: values of a form. -/
import Derived.Test.YtldcljfjjoidhaaGreatDoorAmKA
import Derived.Laws.StructEq
import Derived.ChangeKeysEq
import Derived.IntWalk
set_option linter.all false
open Array renaming ext'→aa6, range→aa7
open Bool renaming and_eq_true→aac, true_and→aa3, false_eq_true→aa8, and_true→acw
open Go.Instr renaming sureAddr→aai, buildSlice→aaF, indexAt→aaZ, fill→abI
open Go.Op renaming stringOp→aa0, intCmp→abx, bytesLess→abS, intArith→abU, equalIn→ab2
open Go.Result renaming andThen_ok→aab
open Go.Sem renaming run_bind→aad, run_pure→aag
open List renaming replicate→aao, getElem?_eq_getElem→aap, mem_of_mem_take→aa5, length_append→aby, mem_append→abT, getElem?_eq_none→abW, map→abX, mem_of_mem_drop→ab1, map_cons→acz, replicate_succ→acS
open Nat renaming le_of_ble_eq_true→aae, eq_of_beq_eq_true→aaf, beq_eq→aah, beq→aa1, add_mul→aa2, beq_refl→aa4, add_assoc→abD, add_zero→abN, mul_le_mul_right→ace, zero_mul→acU, succ_mul→acV
open Ne renaming symm→abV
namespace Go.Am
open Go
theorem K4 {a b:AV} (h:KV a b=true):a=b:=by
 unfold KV at h;split at h
 all_goals (first|(cases h; done) | skip)
 all_goals (try simp only [aac,beq_iff_eq,aah] at h)
 all_goals (simp [*])
mutual
theorem jx:∀ {a b:AV},dE a b=true→a=b:=by
 intro a b h;unfold dE at h;split at h
 ·simp only [aac,aah] at h; rw [h.1.1,fP h.1.2,fP h.2]
 ·rw [fP h]
 ·rw [fP h]
 ·rw [fP h]
 ·simp only [aac,aah] at h; rw [h.1,fP h.2]
 ·simp only [aac,aah] at h; rw [h.1,fP h.2]
 ·simp only [aac,aah] at h; rw [h.1,fP h.2]
 ·simp only [aac,aah] at h; rw [h.1.1,h.1.2,fP h.2]
 ·simp only [aac,aah] at h; rw [h.1.1.1,h.1.1.2,h.1.2,fP h.2]
 ·exact K4 h
theorem fP:∀ {l r:List AV},mI l r=true→l=r:=by
 intro l r h;unfold mI at h;split at h
 ·rfl
 ·rw [aac] at h; rw [jx h.1,fP h.2]
 ·cases h
end
def B4 (a b:AV):Prop:=∀ (R:ak) (w:World) (c:Value),Rel R w a c→Rel R w b c
def cW:List AV→List AV→Prop
 |[],[]=>True
 |a :: l,b :: r=>B4 a b∧cW l r
 |_,_=>False
theorem B4.refl (a:AV):B4 a a:=fun _ _ _ h=>h
theorem cW.refl:∀ l:List AV,cW l l
 |[]=>trivial
 |a :: l=>⟨B4.refl a,cW.refl l⟩
theorem cW.length:∀ {l r:List AV},cW l r→l.length=r.length
 |[],[],_=>rfl
 |_ :: _,_ :: _,h=>by simp [cW.length h.2]
 |[],_ :: _,h=>h.elim
 |_ :: _,[],h=>h.elim
theorem cW.rel {R:ak} {w:World}:∀ {l r:List AV} {cs:List Value},cW l r→aN R w l cs→aN R w r cs
 |[],[],_,_,h=>h
 |_ :: _,_ :: _,_,k,.cons h t=>.cons (k.1 _ _ _ h) (cW.rel k.2 t)
 |[],_ :: _,_,h,_=>h.elim
 |_ :: _,[],_,h,_=>h.elim
theorem cW.K6 {R:ak} {w:World}:∀ {l r:List AV} {b o:Nat},cW l r→dV R w b o l→dV R w b o r
 |[],[],_,_,_,_=>.nil
 |_ :: _,_ :: _,_,_,k,.cons hc h1 hi h t=>.cons hc h1 hi (k.1 _ _ _ h) (cW.K6 k.2 t)
 |[],_ :: _,_,_,h,_=>h.elim
 |_ :: _,[],_,_,h,_=>h.elim
theorem cW.append:∀ {a b c d:List AV},cW a b→cW c d→cW (a++c) (b++d)
 |[],[],_,_,_,h=>h
 |_ :: _,_ :: _,_,_,k,h=>⟨k.1,cW.append k.2 h⟩
 |[],_ :: _,_,_,h,_=>h.elim
 |_ :: _,[],_,_,h,_=>h.elim
structure jb (v u:AV):Prop where
 hY:B4 v u
 bq:u.a8=v.a8
 cells:v.a8=true→cW v.cells u.cells
 closed:v.closed=true→u.closed=true
theorem wP {u v a:AV} (h:(aP.two u v).fits a=true):(aP.two u v).enc ((aP.two u v).bJ a)=a:=by
 change (dE a u || dE a v)=true at h;change (bif dE a v then v else u)=a;cases hs:dE a v with
 |true=>exact (jx hs).symm
 |false=>
  rw [hs,Bool.or_false] at h;exact (jx h).symm
theorem jb.refl (v:AV):jb v v:=⟨B4.refl v,rfl,fun _=>cW.refl _,fun h=>h⟩
theorem FI {a b:IntKind} (h:Vc a b=true):a=b:=of_decide_eq_true h
theorem sV {α:Type} {f:AV→Bool} {d:AV→α} {g:α→AV} (HO:∀ v,f v=true→jb v (g (d v))) {R:ak} {w:World} :
  ∀ {es:List AV} {b o sz:Nat},allFit f es=true→gj R w b o sz es→gj R w b o sz ((es.map d).map g)
 |[],b,o,sz,_,_=>.nil
 |e :: es,b,o,sz,h,hr=>by
  simp only [allFit,aac] at h;cases hr with
  |cons hl ht hk hc t=>
   have d':=HO e h.1;have wc:=d'.cells ht;exact .cons (by rw [← wc.length,hl]) (by rw [d'.bq,ht]) (d'.closed hk) (wc.K6 hc) (sV HO h.2 t)
theorem Je {R:ak} {w:World} {b o sz bV:Nat} {es:List AV} (h:es=[]∨sz=bV) (hr:gj R w b o bV es):gj R w b o sz es:=by
 rcases h with rfl|rfl
 ·exact .nil
 ·exact hr
theorem Jf {α:Type} {f:AV→Bool} {d:AV→α} {g:α→AV} (HO:∀ v,f v=true→jb v (g (d v))) {k:LK} {sz bV:Nat} {es:List AV} (hs:es=[]∨sz=bV) (h:allFit f es=true) :
  B4 (.list k bV es) (.list .ly sz ((es.map d).map g)):=fun R w c hr=>by
 cases hr with
 |kC=>exact .jc
 |jc=>exact .jc
 |nQ=>exact .nQ
 |mN _ _=>exact .jc
 |nR _ _=>exact .jc
 |list hr hlen hc hk=>exact .list (sV HO h (Je hs hr)) (by simp [hlen]) hc trivial
theorem K7 {α:Type} {f:AV→Bool} {d:AV→α} {g:α→AV} (HO:∀ v,f v=true→jb v (g (d v))) {id sz:Nat} {es:List AV} (h:allFit f es=true) :
  B4 (.list (.own id) sz es) (.list (.own id) sz ((es.map d).map g)):=fun R w c hr=>by
 cases hr with
 |mN h1 h2=>exact .mN h1 h2
 |list hr hlen hc hk=>exact .list (sV HO h hr) (by simp [hlen]) hc hk
theorem K8 {α:Type} {f:AV→Bool} {d:AV→α} {g:α→AV} (HO:∀ v,f v=true→jb v (g (d v))) {id j sz:Nat} {es:List AV} (h:allFit f es=true) :
  B4 (.list (.bK id j) sz es) (.list (.bK id j) sz ((es.map d).map g)):=fun R w c hr=>by
 cases hr with
 |nR h1 h2=>exact .nR h1 h2
 |list hr hlen hc hk=>exact .list (sV HO h hr) (by simp [hlen]) hc hk
mutual
theorem aP.dh:∀ (p:aP) {v:AV},p.fits v=true→jb v (p.enc (p.bJ v))
 |.int k,v,h=>by
  cases v with
  |int k' n=>
   have hk:Vc k k'=true:=h;rw [FI hk];exact jb.refl _
  |_=>cases h
 |.bool,v,h=>by
  cases v with
  |bool b=>exact jb.refl _
  |_=>cases h
 |.str,v,h=>by
  cases v with
  |str b=>exact jb.refl _
  |_=>cases h
 |.agg ps,v,h=>by
  cases v with
  |agg cs=>
   obtain ⟨h1,h2⟩:=ps.dh (show ps.fits cs=true from h);exact ⟨fun R w c hr=>by cases hr with | agg hr xG=>exact .agg (h1.rel hr) xG,rfl,fun _=>h1,fun hc=>by
    have A0:aF cs=true:=by simpa [AV.closed] using hc
    show AV.closed (.agg (ps.enc (ps.bJ cs)))=true;simp only [AV.closed]; exact h2 A0⟩
  |_=>cases h
 |.bq ps,v,h=>by
  cases v with
  |bq cs=>
   obtain ⟨h1,h2⟩:=ps.dh (show ps.fits cs=true from h);exact ⟨fun R w c hr=>by cases hr with | bq hr=>exact .bq (h1.rel hr),rfl,fun hn=>by simp [AV.a8] at hn,fun hc=>by
    have A0:aF cs=true:=by simpa [AV.closed] using hc
    show AV.closed (.bq (ps.enc (ps.bJ cs)))=true;simp only [AV.closed]; exact h2 A0⟩
  |_=>cases h
 |.list sz p,v,h=>by
  cases v with
  |list k bV es=>
   have hb:((aa1 sz bV || es.isEmpty)&&allFit p.fits es)=true:=h;simp only [aac,Bool.or_eq_true,aah,List.isEmpty_iff] at hb;have hw:=Jf (k:=k) (fun v=>p.dh) hb.1.symm hb.2;exact ⟨hw,rfl,fun _=>⟨hw,trivial⟩,fun _=>rfl⟩
  |_=>cases h
 |.own id sz p,v,h=>by
  cases v with
  |list k bV es=>
   cases k with
   |own jP=>
    have hb:((aa1 id jP&&aa1 sz bV)&&allFit p.fits es)=true:=h;simp only [aac,aah] at hb;obtain ⟨⟨rfl,rfl⟩,hf⟩:=hb;have hw:=K7 (id:=id) (sz:=sz) (fun v=>p.dh) hf;exact ⟨hw,rfl,fun _=>⟨hw,trivial⟩,fun hc=>by simp [AV.closed,LK.closed] at hc⟩
   |_=>cases h
  |_=>cases h
 |.bK id sz p,v,h=>by
  cases v with
  |list k bV es=>
   cases k with
   |bK jP j=>
    have hb:((aa1 id jP&&aa1 sz bV)&&allFit p.fits es)=true:=h;simp only [aac,aah] at hb;obtain ⟨⟨rfl,rfl⟩,hf⟩:=hb;have hw:=K8 (id:=id) (j:=j) (sz:=sz) (fun v=>p.dh) hf;exact ⟨hw,rfl,fun _=>⟨hw,trivial⟩,fun hc=>by simp [AV.closed,LK.closed] at hc⟩
   |_=>cases h
  |_=>cases h
 |.bT u,v,h=>by
  have:=jx (show dE v u=true from h);subst this;exact jb.refl _
 |.two u v,a,h=>by
  have hv:(aP.two u v).enc ((aP.two u v).bJ a)=a:=wP h;rw [hv];exact jb.refl _
theorem aM.dh:∀ (ps:aM) {l:List AV},ps.fits l=true→cW l (ps.enc (ps.bJ l))∧(aF l=true→aF (ps.enc (ps.bJ l))=true)
 |.nil,l,h=>by
  cases l with
  |nil=>exact ⟨trivial,fun h=>h⟩
  |cons _ _=>cases h
 |.cons p .nil,l,h=>by
  match l,h with
  |[],h=>cases h
  |a :: l,h=>
   have h':(p.fits a&&l.isEmpty)=true:=h;simp only [aac,List.isEmpty_iff] at h';obtain ⟨h1,rfl⟩:=h';have d:=p.dh h1;exact ⟨⟨d.hY,trivial⟩,fun hc=>by
    simp only [aF,acw] at hc;show aF [p.enc (p.bJ a)]=true;simp only [aF,acw];exact d.closed hc⟩
 |.cons p (.cons q ps),l,h=>by
  cases l with
  |nil=>cases h
  |cons a l=>
   have h':(p.fits a&&(aM.cons q ps).fits l)=true:=h;rw [aac] at h';have d:=p.dh h'.1;obtain ⟨k1,k2⟩:=(aM.cons q ps).dh h'.2;exact ⟨⟨d.hY,k1⟩,fun hc=>by
    simp only [aF,aac] at hc;show aF (p.enc (p.bJ a) :: (aM.cons q ps).enc ((aM.cons q ps).bJ l))=true;simp only [aF,aac];exact ⟨d.closed hc.1,k2 hc.2⟩⟩
end
theorem aP.rU (p:aP) {v:AV} {x:p.T} (h:p.dec v=some x):jb v (p.enc x):=by
 unfold aP.dec at h;cases hf:p.fits v with
 |true=>rw [hf] at h; cases h; exact p.dh hf
 |false=>rw [hf] at h; cases h
theorem aM.rU (ps:aM) {l:List AV} {x:ps.T} (h:ps.dec l=some x):cW l (ps.enc x)∧(aF l=true→aF (ps.enc x)=true):=by
 unfold aM.dec at h;cases hf:ps.fits l with
 |true=>rw [hf] at h; cases h; exact ps.dh hf
 |false=>rw [hf] at h; cases h
mutual
def aP.plain:aP→Bool
 |.agg ps=>ps.plain
 |.bq ps=>ps.plain
 |.list _ p=>p.plain
 |.own _ _ p=>p.plain
 |.bK _ _ p=>p.plain
 |.bT v=>dE v v
 |.two u v=>dE u u&&dE v v&&!dE u v
 |_=>true
def aM.plain:aM→Bool
 |.nil=>true
 |.cons p ps=>p.plain&&ps.plain
end
theorem nU {α:Type} {f:AV→Bool} {g:α→AV} (h:∀ x,f (g x)=true):∀ xs:List α,allFit f (xs.map g)=true
 |[]=>rfl
 |x :: xs=>by simp only [acz,allFit,h x,nU h xs,Bool.and_self]
theorem wQ {α:Type} {d:AV→α} {g:α→AV} (h:∀ x,d (g x)=x):∀ xs:List α,(xs.map g).map d=xs
 |[]=>rfl
 |x :: xs=>by simp only [acz,h x,wQ h xs]
mutual
theorem aP.bX:∀ (p:aP) (x:p.T),p.plain=true→p.fits (p.enc x)=true∧p.bJ (p.enc x)=x
 |.int k,x,_=>⟨decide_eq_true rfl,rfl⟩
 |.bool,x,_=>⟨rfl,rfl⟩
 |.str,x,_=>⟨rfl,rfl⟩
 |.agg ps,x,h=>ps.bX x h
 |.bq ps,x,h=>ps.bX x h
 |.list sz p,x,h=>by
  refine ⟨?_,wQ (fun y=>(p.bX y h).2) x⟩;change ((aa1 sz sz || (abX p.enc x).isEmpty)&&allFit p.fits (abX p.enc x))=true;rw [aa4,Bool.true_or,aa3];exact nU (fun y=>(p.bX y h).1) x
 |.own id sz p,x,h=>by
  refine ⟨?_,wQ (fun y=>(p.bX y h).2) x⟩;change ((aa1 id id&&aa1 sz sz)&&allFit p.fits (abX p.enc x))=true;rw [aa4,aa4,aa3,aa3];exact nU (fun y=>(p.bX y h).1) x
 |.bK id sz p,(x:Nat × List p.T),h=>by
  refine ⟨?_,?_⟩
  ·change ((aa1 id id&&aa1 sz sz)&&allFit p.fits (abX p.enc x.2))=true;rw [aa4,aa4,aa3,aa3];exact nU (fun y=>(p.bX y h).1) x.2
  ·change (x.1,(abX p.enc x.2).map p.bJ)=x;rw [wQ (fun y=>(p.bX y h).2) x.2]
 |.bT v,x,h=>⟨h,rfl⟩
 |.two u v,(x:Bool),h=>by
  change (dE u u&&dE v v&&!dE u v)=true at h;simp only [aac,Bool.not_eq_true'] at h;obtain ⟨⟨h1,h2⟩,h3⟩:=h;cases x
  ·exact ⟨by change (dE u u || dE u v)=true; rw [h1]; rfl,h3⟩
  ·exact ⟨by change (dE v u || dE v v)=true; rw [h2,Bool.or_true],h2⟩
theorem aM.bX:∀ (ps:aM) (x:ps.T),ps.plain=true→ps.fits (ps.enc x)=true∧ps.bJ (ps.enc x)=x
 |.nil,x,_=>⟨rfl,rfl⟩
 |.cons p .nil,x,h=>by
  have h':(p.plain&&true)=true:=h;rw [acw] at h';have:=p.bX x h';exact ⟨by change (p.fits (p.enc x)&&true)=true; rw [this.1]; rfl,this.2⟩
 |.cons p (.cons q ps),x,h=>by
  have h':(p.plain&&(aM.cons q ps).plain)=true:=h;rw [aac] at h';have h1:=p.bX x.1 h'.1;have h2:=(aM.cons q ps).bX x.2 h'.2;refine ⟨?_,?_⟩
  ·change (p.fits (p.enc x.1)&&(aM.cons q ps).fits ((aM.cons q ps).enc x.2))=true;rw [h1.1,h2.1];rfl
  ·change (p.bJ (p.enc x.1),(aM.cons q ps).bJ ((aM.cons q ps).enc x.2))=x;rw [h1.2,h2.2];rfl
end
end Go.Am
namespace Go.Am
open Go
theorem cD (E:Env) {t:TypeId} {i:TI} (h:E.ti t=some i) :
  ∃ ia u,E.P.info? t=some ia∧E.P.underlying t=some u∧ia.size=i.size∧jQ u=i.agg∧ra E.P u=some i.k∧gb ia=i.zero:=by
 have h1:=E.I7 t i h;unfold I6 at h1;split at h1
 ·rename_i ia u h2 h3;split at h1
  ·rename_i k hk;cases h1;exact ⟨ia,u,h2,h3,rfl,rfl,hk,rfl⟩
  ·cases h1
 ·cases h1
section runs
variable {P:Program} (w:World)
theorem A1 {t:TypeId} {u:TypeDesc} (h:P.underlying t=some u):(isAgg t).run P w=.ok (jQ u) w:=by
 unfold isAgg;simp only [aad,run_underlying h,aab];cases u <;> rfl
theorem run_sizeOf {t:TypeId} {i:TypeInfo} (h:P.info? t=some i):(sizeOf t).run P w=.ok i.size w:=by
 simp [sizeOf,typeInfo,h]
theorem gK {t:TypeId} {i:TypeInfo} {z:Value} (h:P.info? t=some i) (hz:i.zero=some z):(zeroValue t).run P w=.ok z w:=by
 simp [zeroValue,typeInfo,h,hz]
theorem xH (t:TypeId) (v:Value):(newVar t v).run P w=.ok ⟨w.heap.size,0,none⟩ (w.alloc (.cells v.cells t)):=by
 simp only [newVar,newRow,aad,run_newObj,aab,aag];rfl
end runs
theorem xI {R:ak} {w:World} {ag:Bool} {l:List AV} {v:AV} {vs:List Value} (hm:ug ag l=some v) (h:aN R w l vs) (h1:∀ x∈vs,x.oneCell'=true) :
  (ag=true→Rel R w v (.agg ⟨vs⟩))∧(ag=false→∃ c,vs=[c]∧Rel R w v c):=by
 unfold ug at hm;cases ag with
 |true=>
  simp at hm;subst hm;exact ⟨fun _=>.agg h h1,fun e=>by cases e⟩
 |false=>
  refine ⟨(fun e=>by cases e),fun _=>?_⟩;simp only [aa8,if_false] at hm;split at hm
  ·cases hm;cases h with
   |cons h t=>
    cases t;exact ⟨_,rfl,h⟩
  ·cases hm
theorem po {E:Env} {R:ak} {w:World} {t:TypeId} {i:TI} (hi:E.ti t=some i) {b off:Nat} {l:List AV} {vs:List Value} {v:AV}
  (hl:l.length=i.size) (hr:aN R w l vs) (h1:∀ x∈vs,x.oneCell'=true) (hc:∀ j x,vs[j]?=some x→w.cell? ⟨b,off+j,none⟩=some x) (hm:ug i.agg l=some v) :
  ∃ c,(loadVar t ⟨b,off,none⟩).run E.P w=.ok c w∧Rel R w v c:=by
 obtain ⟨ia,u,e1,e2,e3,e4,_⟩:=cD E hi;obtain ⟨m1,m2⟩:=xI hm hr h1;unfold loadVar;simp only [aad,A1 w e2,aab,e4];cases ha:i.agg with
 |true=>
  refine ⟨.agg ⟨vs⟩,?_,m1 ha⟩;have hlen:ia.size=vs.length:=by rw [e3,← hl,hr.length]
  have:=run_loadCells_list (P:=E.P) w ⟨b,off,none⟩ vs (fun j x hx=>by rw [cM]; exact hc j x hx);simp [run_sizeOf w e1,hlen,this]
 |false=>
  obtain ⟨c,rfl,eD⟩:=m2 ha;refine ⟨c,?_,eD⟩;have:=hc 0 c (by simp);simp only [abN] at this;simp [run_load,this]
theorem jy {w:World} {b:Nat} {vs:List Value} {el:TypeId} {fr:Nat × Nat} (h:w.heap[b]?=some (.cells ⟨vs⟩ el fr)) (j:Nat):w.cell? ⟨b,j,none⟩=vs[j]?:=by
 simp [World.cell?,h]
theorem vu {E:Env} {R:ak} {w:World} {β:Nat→Nat} {s:St} {a:Act} (h:bt E R w β s a) {p:SV} {c:Value} (hp:rm R w β p c) {cs:List AV} {off:Nat} (hc:nK s p=some (cs,off)) :
  ∃ b o vs,c=.pointer (some ⟨b,o+off,none⟩)∧aN R w cs vs∧(∀ x∈vs,x.oneCell'=true)∧∀ j x,vs[j]?=some x→w.cell? ⟨b,o+j,none⟩=some x:=by
 unfold nK at hc;split at hc
 ·rename_i k fO;split at hc
  ·rename_i cs' hk;cases hc;obtain ⟨⟨vs,el,h1,h2,h3⟩,_⟩:=h.b.box k cs hk;exact ⟨β k,0,vs,by rw [hp]; simp,h2,h3,fun j x hx=>by rw [jy h1]; simpa using hx⟩
  ·cases hc
 ·rename_i id fO;split at hc
  ·rename_i cs' hk;cases hc;cases hp with
   | @ptr _ _ b hb=>
    obtain ⟨vs,h1,h2,h3,_⟩:=h.g.obj id _ _ hk hb;exact ⟨b,0,vs,by simp,h2,h3,fun j x hx=>by rw [jy h1]; simpa using hx⟩
  ·cases hc
 ·rename_i cs';cases hc;cases hp with
  |ep hr=>
   obtain ⟨vs,h1,h2,h3,_⟩:=hr.get;exact ⟨_,_,vs,rfl,h1,h2,h3⟩
 ·cases hc
theorem qE {R:ak} {w:World} {off n:Nat} {cs l:List AV} {vs:List Value} (hs:HK off n cs=some l) (h:aN R w cs vs) (h1:∀ x∈vs,x.oneCell'=true) :
  l.length=n∧aN R w l ((vs.drop off).take n)∧(∀ x∈(vs.drop off).take n,x.oneCell'=true)∧∀ j x,((vs.drop off).take n)[j]?=some x→vs[off+j]?=some x:=by
 obtain ⟨e1,e2⟩:=Vi hs;subst e1;refine ⟨e2,(h.drop off).take n,fun x hx=>h1 x (ab1 (aa5 hx)),fun j x hx=>?_⟩;rw [List.getElem?_take] at hx;split at hx
 ·rwa [List.getElem?_drop] at hx
 ·cases hx
def cu (E:Env) (R:ak) (w:World) (β:Nat→Nat) (s:St) (a:Act) (o:Oper) (s':St):Prop:=
 ∃ nx x w' R' β',(execOp a.eval o).run E.P w=.ok nx w'∧(nx=.value x∨(nx=.skip∧x=undef))∧bt E R' w' β' s' (a.put o.dst x)∧Step R w β s.boxes R' w' β' s'.boxes
section ops
variable {E:Env} {R:ak} {w:World} {β:Nat→Nat} {s:St} {a:Act} {o:Oper}
@[simp] theorem bc (s:St) (d:Option Tmp) (x:SV):(s.put d x).boxes=s.boxes:=by
 cases d with
 |none=>rfl
 |some d=>simp only [St.put]; split <;> rfl
theorem ao (h:bt E R w β s a) {c:Value} {sv:SV} (hx:(execOp a.eval o).run E.P w=.ok (.value c) w) (hr:rm R w β sv c):cu E R w β s a o (s.put o.dst sv):=
 ⟨.value c,c,w,R,β,hx,.inl rfl,h.put o.dst hr,by rw [bc]; exact Step.refl R w β s.boxes⟩
theorem FJ {t:Bool} {x y:AV} {c d:Value} (hx:Rel R w x c) (hy:Rel R w y d):Rel R w (B0 t x y) (if t=true then c else d):=by
 unfold B0;split
 ·cases hx; cases hy; cases t <;> exact .bool _
 ·cases hx; cases hy;split
  ·rename_i e; subst e; cases t <;> exact .int _ _
  ·cases t <;> exact .int _ _
 ·cases t
  ·exact hy
  ·exact hx
theorem kq (h:bt E R w β s a) (x:Operand) (ho:o.op=.move x∨o.op=.assign x) {y:SV} (hy:bP E s.ae x=y):cu E R w β s a o (s.put o.dst y):=by
 subst hy;refine ao h (c:=a.eval x) ?_ (aW h x);rcases ho with ho|ho <;> simp [execOp,ho]
theorem Jg (h:bt E R w β s a) (c x y:Operand) (ho:o.op=.pick c x y) {t:Bool} {p q:AV} (h1:bP E s.ae c=.v (.bool t)) (h2:bP E s.ae x=.v p) (h3:bP E s.ae y=.v q) :
  cu E R w β s a o (s.put o.dst (.v (B0 t p q))):=by
 have r1:=aW h c;have r2:=aW h x;have r3:=aW h y;rw [h1] at r1; rw [h2] at r2; rw [h3] at r3;refine ao h (c:=if t=true then a.eval x else a.eval y) ?_ (FJ r2 r3);have r1':Rel R w (.bool t) (a.eval c):=r1;generalize Ft:a.eval c=cc at r1';cases r1';simp [execOp,ho,asBool,Ft]
theorem Jh (h:bt E R w β s a) (t:TypeId) (x:Operand) (ho:o.op=.load t x) {v:AV} (hl:sP E s t (bP E s.ae x)=some v) :
  cu E R w β s a o (s.put o.dst (.v v)):=by
 unfold sP at hl;split at hl
 ·rename_i i cs off hi hc;split at hl
  ·rename_i l hs;obtain ⟨b,o',vs,e,h1,h2,h3⟩:=vu h (aW h x) hc;obtain ⟨k1,k2,k3,k4⟩:=qE hs h1 h2;obtain ⟨c,hc,eD⟩:=po (E:=E) hi (b:=b) (off:=o'+off) k1 k2 k3 (fun j y hy=>by rw [abD]; exact h3 _ _ (k4 j y hy)) hl;refine ao h (c:=c) ?_ eD;simp [execOp,ho,Instr.loadAt,e,aai,hc]
  ·cases hl
 ·cases hl
theorem jd {b:Nat} (hI:∀ o,¬ R.I b o) (cs:Array Value):Ext R w R (w.setRow b cs):=
 ⟨fun _ _ h=>h,fun b' o h=>cn (setRow_other w b b' cs (fun e=>hI o (e ▸ h))) o,fun _ ro h=>⟨ro,h,cJ.refl ro⟩,fun b' r hb=>⟨r,by
  by_cases e:b'=b
  ·subst e;have cm:b' < w.heap.size:=bl hb;have hv:w.heap[b']=.loop r:=(Array.getElem?_eq_some_iff.1 hb).2;unfold World.setRow;rw [Array.getElem?_eq_getElem (by simpa using cm),Array.getElem_modify];simp [hv]
  ·exact (setRow_other w b b' cs e).trans hb,rfl,rfl,rfl,rfl,rfl⟩⟩
theorem aN.bh {cs ys:List AV} {vs us:List Value} {off:Nat} (h:aN R w cs vs) (k:aN R w ys us) (hl:off+ys.length≤cs.length) :
  aN R w (bh cs off ys) (vs.take off++us++vs.drop (off+us.length)):=by
 rw [eT cs off ys hl,← k.length];exact ((h.take off).append k).append (h.drop _)
theorem je {vs us:List Value} {off n:Nat} (h:∀ x∈vs,x.oneCell'=true) (k:∀ x∈us,x.oneCell'=true):∀ x∈vs.take off++us++vs.drop n,x.oneCell'=true:=by
 intro x hx;simp only [abT] at hx;rcases hx with (hx|hx)|hx
 ·exact h x (aa5 hx)
 ·exact k x hx
 ·exact h x (ab1 hx)
theorem j9 {t:TypeId} {i:TI} (hi:E.ti t=some i) {b off:Nat} {vs:List Value} {el:TypeId} {c:Value} (hb:w.heap[b]?=some (.cells ⟨vs⟩ el (0,0)))
  (hs:c.cells.toList.length=i.size) (hl:off+c.cells.toList.length≤vs.length) (h1:∀ v∈c.cells.toList,v.oneCell'=true) :
  (storeVar t ⟨b,off,none⟩ c).run E.P w=.ok () (w.setRow b ⟨vs.take off++c.cells.toList++vs.drop (off+c.cells.toList.length)⟩):=by
 obtain ⟨ia,u,e1,e2,e3,_⟩:=cD E hi;have jz:=run_storeCells_at (P:=E.P) b off el c.cells.toList 0 ⟨vs⟩ w hb (by simpa using hl) h1;have cS:c.cells.size=ia.size:=by rw [e3,← hs]; simp
 simp only [abN] at jz;unfold storeVar;simp only [aad,run_sizeOf w e1,aab,Sem.run_ite,cS,ne_eq,not_true_eq_false,if_false];simpa using jz
theorem bt.FK (h:bt E R w β s a) {id b k:Nat} {cs:List AV} (hb:nth R.obj id=some (.ck b)) (hk:dA s.boxes k=some cs):β k≠b:=by
 intro e;exact (h.b.box k cs hk).2.2 ⟨id,_,hb,by rw [e]; rfl⟩
theorem FL (h:bt E R w β s a) (t:TypeId) (p x:Operand) (ho:o.op=.store t p x) (hd:o.dst=none) {s':St} (hs:jR E s t (bP E s.ae p) (bP E s.ae x)=some s') :
  cu E R w β s a o s':=by
 unfold jR at hs;have rp:=aW h p;have rx:=aW h x;split at hs
 ·rename_i i v hi hx;rw [hx] at rx;split at hs
  ·rename_i fG;simp only [aac] at fG;obtain ⟨Pb,hlen⟩:=fG;have hlen:=aaf hlen;obtain ⟨c1,c2⟩:=Rel.cells rx Pb;have Dc:v.cells.length=(a.eval x).cells.toList.length:=c1.length;split at hs
   ·-- a local box
    rename_i k off ZA;rw [ZA] at rp;split at hs
    ·rename_i cs hk;split at hs
     ·rename_i hle;cases hs;have hle:=aae hle;obtain ⟨⟨vs,el,b1,b2,b3⟩,b4,b5⟩:=h.b.box k cs hk;have bM:=j9 (E:=E) (w:=w) hi (off:=off) (c:=a.eval x) b1 (by rw [← Dc]; exact hlen) (by rw [← Dc,← b2.length]; exact hle) c2;have hex:=jd (R:=R) (w:=w) b4 ⟨vs.take off++(a.eval x).cells.toList++vs.drop (off+(a.eval x).cells.toList.length)⟩;refine ⟨.skip,undef,w.setRow (β k) ⟨vs.take off++(a.eval x).cells.toList++vs.drop (off+(a.eval x).cells.toList.length)⟩,R,β,?_,.inr ⟨rfl,rfl⟩,?_,?_⟩
      ·simp [execOp,ho,Instr.storeAt,show a.eval p=.pointer (some ⟨β k,off,none⟩) from rp,aai,bM]
      ·rw [hd];refine ⟨?_,?_,h.t.mono hex,h.n,h.d⟩
       ·exact h.g.aY hex rfl (fun b hb=>setRow_other w _ b _ (fun e=>b5 (e ▸ hb))) (fun _ _ _ hi=>hi) (fun b o hi=>by have:=h.g.wf b o hi; simp; omega)
       ·refine ⟨fun k' cs' iJ=>?_,fun k1 k2 x1 x2 g1 g2=>?_⟩
        ·rcases eR iJ with ⟨rfl,e⟩|⟨cS,ZB⟩
         ·cases e;exact ⟨⟨_,el,setRow_heap w _ _ _ el (0,0) b1,(b2.bh c1 hle).mono hex,je b3 c2⟩,b4,b5⟩
         ·obtain ⟨⟨vs',el',d1,d2,d3⟩,d4,d5⟩:=h.b.box k' cs' ZB;refine ⟨⟨vs',el',?_,d2.mono hex,d3⟩,d4,d5⟩;rw [setRow_other]
          ·exact d1
          ·exact fun e=>cS (h.b.inj k' k cs' cs ZB hk e).symm
        ·have q1:∃ y,dA s.boxes k1=some y:=by
          rcases eR g1 with ⟨rfl,_⟩|⟨_,g⟩
          ·exact ⟨_,hk⟩
          ·exact ⟨_,g⟩
         have q2:∃ y,dA s.boxes k2=some y:=by
          rcases eR g2 with ⟨rfl,_⟩|⟨_,g⟩
          ·exact ⟨_,hk⟩
          ·exact ⟨_,g⟩
         obtain ⟨y1,q1⟩:=q1;obtain ⟨y2,q2⟩:=q2;exact h.b.inj k1 k2 y1 y2 q1 q2
      ·have B5:Own R β s.boxes (β k):=.inr ⟨k,cs,hk,rfl⟩;refine ⟨hex,rfl,rfl,rfl,by simp,fun b _ hn=>setRow_other w _ b _ (fun e=>hn (e ▸ B5)),fun b _ hb=>?_,fun b o hi _ _=>hi⟩;rcases hb with hb|⟨k',cs',iJ,e⟩
       ·exact .inl hb
       ·rcases eR iJ with ⟨rfl,_⟩|⟨_,g⟩
        ·exact .inr ⟨k,cs,hk,e⟩
        ·exact .inr ⟨k',cs',g,e⟩
     ·cases hs
    ·cases hs
   ·-- an object
    rename_i id off ZA;rw [ZA] at rp;split at hs
    ·rename_i cs hk;split at hs
     ·rename_i hle;cases hs;have hle:=aae hle;have ZC:Rel R w (.ptr id off) (a.eval p):=rp;generalize ZD:a.eval p=pv at ZC;cases ZC with
      | @ptr _ _ b hb=>
      obtain ⟨vs,b1,b2,b3,b4⟩:=h.g.obj id _ _ hk hb;have bM:=j9 (E:=E) (w:=w) hi (off:=off) (c:=a.eval x) b1 (by rw [← Dc]; exact hlen) (by rw [← Dc,← b2.length]; exact hle) c2;have hex:=jd (R:=R) (w:=w) b4 ⟨vs.take off++(a.eval x).cells.toList++vs.drop (off+(a.eval x).cells.toList.length)⟩;refine ⟨.skip,undef,w.setRow b ⟨vs.take off++(a.eval x).cells.toList++vs.drop (off+(a.eval x).cells.toList.length)⟩,R,β,?_,.inr ⟨rfl,rfl⟩,?_,?_⟩
      ·simp [execOp,ho,Instr.storeAt,ZD,aai,bM]
      ·rw [hd];refine ⟨⟨?_,fun jP go ro hg hr=>?_,h.g.inj,fun b' o' um=>by have:=h.g.wf b' o' um; simp; omega,fun g cs' hg=>(h.g.cr g cs' hg).mono hex,by first | exact h.g.lo | exact Nat.le_succ_of_le h.g.lo⟩,?_,h.t.mono hex,h.n,h.d⟩
       ·simp [St.cH,h.g.len]
       ·rcases du hg with ⟨rfl,rfl,_⟩|⟨cS,rV⟩
        ·rw [hb] at hr;cases hr;exact ⟨_,setRow_heap w _ _ _ _ (0,0) b1,(b2.bh c1 hle).mono hex,je b3 c2,b4⟩
        ·refine (h.g.obj jP go ro rV hr).mono hex (fun b' gJ=>setRow_other w _ b' _ (fun e=>cS ?_)) (fun _ _ _ hi=>hi);subst e;exact h.g.inj id jP _ _ b' hb hr rfl gJ
       ·exact h.b.aY hex (fun k cs' iJ=>setRow_other w _ _ _ (h.FK hb iJ)) (fun _ _ _ _ hi=>hi) (fun _ _ _ hl=>hl)
      ·have B5:Own R β s.boxes b:=.inl ⟨id,_,hb,rfl⟩;exact ⟨hex,rfl,rfl,rfl,by simp,fun b' _ hn=>setRow_other w _ b' _ (fun e=>hn (e ▸ B5)),fun _ _ hb=>hb,fun b o hi _ _=>hi⟩
     ·cases hs
    ·cases hs
   ·cases hs
  ·cases hs
 ·cases hs
end ops
end Go.Am
namespace Go.Am
open Go
section ops
variable {E:Env} {R:ak} {w:World} {β:Nat→Nat} {s:St} {a:Act} {o:Oper}
def ak.add (R:ak) (ro:RO):ak:=⟨R.I,R.obj++[ro]⟩
theorem gU (wf:∀ b o,R.I b o→b < w.heap.size) (x:Obj) (ro:RO):Ext R w (R.add ro) (w.alloc x):=
 ⟨fun _ _ h=>h,fun b o h=>cn (heap_alloc_old w x b (wf b o h)) o,fun _ r h=>⟨r,dv h,cJ.refl r⟩,.old fun b hb=>heap_alloc_old w x b hb⟩
theorem mP {ro:RO} {b:Nat} (h:Live (R.add ro) b):Live R b∨ro.has b:=by
 obtain ⟨id,r,h1,h2⟩:=h;rcases ar h1 with h1|⟨_,rfl⟩
 ·exact .inl ⟨id,r,h1,h2⟩
 ·exact .inr h2
theorem bt.mr (h:bt E R w β s a) (x:Obj) (go:GO) (ro:RO) (b9:∀ b,ro.has b→b=w.heap.size) (iH:gI (R.add ro) (w.alloc x) go ro):bt E (R.add ro) (w.alloc x) β (s.dU go) a where
 g:=by
  have e:=gU (R:=R) (w:=w) h.g.wf x ro;refine ⟨by simp [St.dU,ak.add,h.g.len],fun id g r h1 h2=>?_,fun i j ri rj b h1 h2 b1 b2=>?_,fun b o hi=>?_,fun g cs hg=>(h.g.cr g cs hg).mono e,by first | exact h.g.lo | exact Nat.le_succ_of_le h.g.lo⟩
  ·rcases ar h2 with h2|⟨h3,rfl⟩
   ·have cm:=ca h2;rw [h.g.len] at cm;rcases ar h1 with h1|⟨h4,_⟩
    ·exact (h.g.obj id g r h1 h2).mono e (fun b hb=>heap_alloc_old w x b (h.g.cj ⟨id,r,h2,hb⟩)) (fun _ _ _ hi=>hi)
    ·omega
   ·rcases ar h1 with h1|⟨h4,rfl⟩
    ·have:=ca h1;rw [h3,h.g.len] at this;omega
    ·exact iH
  ·rcases ar h1 with g1|⟨h3,e1⟩
   ·rcases ar h2 with g2|⟨h4,e2⟩
    ·exact h.g.inj i j ri rj b g1 g2 b1 b2
    ·have:=h.g.cj ⟨i,ri,g1,b1⟩;rw [e2] at b2;have:=b9 b b2;omega
   ·rcases ar h2 with g2|⟨h4,e2⟩
    ·have:=h.g.cj ⟨j,rj,g2,b2⟩;rw [e1] at b1;have:=b9 b b1;omega
    ·omega
  ·have:=h.g.wf b o hi;simp;omega
 b:=h.b.aY (gU h.g.wf x ro) (fun k cs hk=>heap_alloc_old w x _ (h.eC (.inr ⟨k,cs,hk,rfl⟩))) (fun _ _ _ _ hi=>hi) (fun k cs hk hl=>by
  rcases mP hl with hl|hl
  ·exact hl
  ·have:=h.eC (.inr ⟨k,cs,hk,rfl⟩);have hl:=b9 _ hl;omega)
 t:=h.t.mono (gU h.g.wf x ro)
 n:=h.n
 d:=h.d.mono (gU h.g.wf x ro)
theorem c9 (h:bt E R w β s a) (x:Obj) (ro:RO) (b9:∀ b,ro.has b→b=w.heap.size):Step R w β s.boxes (R.add ro) (w.alloc x) β s.boxes:=
 ⟨gU h.g.wf x ro,rfl,rfl,rfl,by simp,fun b hb _=>heap_alloc_old w x b hb,fun b hb ho=>by
  rcases ho with ho|ho
  ·rcases mP ho with ho|ho
   ·exact .inl ho
   ·have ho:=b9 _ ho;omega
  ·exact .inr ho,fun _ _ hi _ _=>hi⟩
theorem gl (h:bt E R w β s a) (ro:RO):nth (R.add ro).obj s.G.length=some ro:=by
 rw [← h.g.len];exact eQ _ _
theorem Dq {f:FuncId} (h:bt E R w β s a) {v:AV} {c:Value} {t:TypeId} (hv:Rel R w v c) (hn:v.a8=true)
  (hx:(execOp a.eval o).run E.P w=.ok (.value (.pointer (some ⟨w.heap.size,0,none⟩))) (w.alloc (.cells c.cells t))) {s':St} (ha:fb E f s o.dst t v.cells=some (true,s')) :
  cu E R w β s a o s':=by
 obtain ⟨c1,c2⟩:=Rel.cells hv hn;unfold fb at ha;split at ha
 ·cases ha
 ·rename_i d hd;split at ha
  ·-- an object
   cases ha;have iH:gI (R.add (.ck w.heap.size)) (w.alloc (.cells c.cells t)) (.row v.cells t) (.ck w.heap.size):=
    ⟨c.cells.toList,heap_alloc_new w _,c1.mono (gU h.g.wf _ _),c2,fun o' hi=>by have:=h.g.wf _ _ hi; omega⟩
   have cX:=h.mr (.cells c.cells t) (.row v.cells t) (.ck w.heap.size) (by exact fun _ h=>h) iH;refine ⟨_,.pointer (some ⟨w.heap.size,0,none⟩),_,R.add (.ck w.heap.size),β,hx,.inl rfl,?_,?_⟩
   ·rw [hd];exact cX.put (some d) (x:=.v (.ptr s.G.length 0)) (Rel.ptr (gl h _))
   ·rw [bc];exact c9 h _ _ (by exact fun _ h=>h)
  ·split at ha
   ·rename_i hbx;injection ha with ha;injection ha with _ Vj;subst Vj;have e:=uo (R:=R) (w:=w) h.g.wf (.cells c.cells t)
    let β':Nat→Nat:=fun k=>if k=d then w.heap.size else β k
    have HP:β' d=w.heap.size:=by simp [β']
    have cS:∀ k,k≠d→β' k=β k:=fun k hk=>by simp [β',hk]
    have hdn:d < a.tmps.size:=by rw [h.n]; exact aae hbx
    have FM:((s.kill d).wj d v.cells).put (some d) (.lp d 0)=⟨.put d (.lp d 0) :: .kill d :: s.ae,(d,v.cells) :: s.boxes,s.G,s.marks,s.ro,s.n⟩:=by
     simp only [St.put,St.wj,St.kill,hbx]
    refine ⟨_,.pointer (some ⟨w.heap.size,0,none⟩),_,R,β',hx,.inl rfl,?_,?_⟩
    ·rw [hd,FM];refine ⟨?_,⟨fun k cs hk=>?_,fun k k' cs cs' hk iJ he=>?_⟩,?_,by simp [Act.put,h.n],h.d⟩
     ·exact h.g.aY e rfl (fun b hb=>heap_alloc_old w _ b (h.g.cj hb)) (fun _ _ _ hi=>hi) (fun b o hi=>by have:=h.g.wf b o hi; simp; omega)
     ·rcases eR hk with ⟨rfl,he⟩|⟨Pc,hk⟩
      ·cases he;rw [HP];exact ⟨⟨c.cells.toList,t,heap_alloc_new w _,c1.mono e,c2⟩,fun o' hi=>by have:=h.g.wf _ _ hi; omega,fun hl=>by have:=h.g.cj hl; omega⟩
      ·rw [cS k (abV Pc)];obtain ⟨⟨vs,el,b1,b2,b3⟩,b4,b5⟩:=h.b.box k cs hk;exact ⟨⟨vs,el,(heap_alloc_old w _ _ (bl b1)).trans b1,b2.mono e,b3⟩,b4,b5⟩
     ·rcases eR hk with ⟨rfl,_⟩|⟨Pc,hk⟩
      ·rcases eR iJ with ⟨rfl,_⟩|⟨Vk,iJ⟩
       ·rfl
       ·rw [HP,cS k' (abV Vk)] at he;have:=h.eC (.inr ⟨k',cs',iJ,rfl⟩);omega
      ·rcases eR iJ with ⟨rfl,_⟩|⟨Vk,iJ⟩
       ·rw [HP,cS k (abV Pc)] at he;have:=h.eC (.inr ⟨k,cs,hk,rfl⟩);omega
       ·rw [cS k (abV Pc),cS k' (abV Vk)] at he;exact h.b.inj k k' cs cs' hk iJ he
     ·intro i hi;by_cases hdi:d=i
      ·subst hdi;rw [aA];refine ⟨.pointer (some ⟨w.heap.size,0,none⟩),by simp [Act.put,hdn],?_⟩;show Value.pointer _=_;rw [HP]
      ·rw [aS hdi] at hi ⊢;rcases HN (l:=s.ae) (d:=d) (t:=i) with ⟨h1,h2⟩|h1
       ·rw [h1] at hi ⊢;obtain ⟨c',q1,q2⟩:=h.t i hi;refine ⟨c',?_,?_⟩
        ·simp only [Act.put];rw [Array.getElem?_setIfInBounds_ne hdi];exact q1
        ·cases oW:lk s.ae i with
         |none=>trivial
         |v y=>rw [oW] at q2; exact Rel.mono e q2
         |lp k off=>
          rw [oW] at q2;show c'=_;rw [cS k (h2 k off oW)];exact q2
       ·exact absurd h1 hi
    ·rw [FM];refine ⟨e,rfl,rfl,rfl,by simp,fun b hb _=>heap_alloc_old w _ b hb,fun b hb ho=>?_,fun _ _ hi _ _=>hi⟩;rcases ho with ho|⟨k,cs,hk,he⟩
     ·exact .inl ho
     ·rcases eR hk with ⟨rfl,_⟩|⟨Pc,hk⟩
      ·rw [HP] at he;omega
      ·rw [cS k (abV Pc)] at he;exact .inr ⟨k,cs,hk,he⟩
   ·cases ha
theorem dp {i:TypeInfo} {z:AV} (h:gb i=some z):∃ c,i.zero=some c∧∀ R w,Rel R w z c:=by
 unfold gb at h;split at h
 ·rename_i c hc;exact ⟨c,hc,fun R w=>vt h⟩
 ·cases h
theorem FN {f:FuncId} (h:bt E R w β s a) (t:TypeId) (ho:o.op=.alloc t) {i:TI} {z:AV} (hi:E.ti t=some i) (hz:i.zero=some z) (hn:z.a8=true) {s':St} (ha:fb E f s o.dst t z.cells=some (true,s')) :
  cu E R w β s a o s':=by
 obtain ⟨ia,u,e1,e2,e3,e4,e5,e6⟩:=cD E hi;rw [hz] at e6;obtain ⟨c,hc,hr⟩:=dp e6;refine Dq h (hr R w) hn (t:=t) ?_ ha;simp [execOp,ho,Instr.alloc,gK w e1 hc,xH]
theorem La {f:FuncId} (h:bt E R w β s a) (t:TypeId) (x:Operand) (ho:o.op=.box t x) {v:AV} (hv:bP E s.ae x=.v v) (hn:v.a8=true) {s':St} (ha:fb E f s o.dst t v.cells=some (true,s')) :
  cu E R w β s a o s':=by
 have hr:=aW h x;rw [hv] at hr;refine Dq h hr hn (t:=t) ?_ ha;simp [execOp,ho,Instr.box,xH]
end ops
end Go.Am
namespace Go.Am
open Go
section types
variable {P:Program}
theorem nV:∀ {fs:List Field} {l:List (Nat × Nat × Bool)},fieldsOf P fs=some l→∀ {j o sz:Nat} {ag:Bool},nth l j=some (o,sz,ag) →
  ∃ f fi u,fs[j]?=some f∧f.offset=o∧P.info? f.type=some fi∧fi.size=sz∧P.underlying f.type=some u∧jQ u=ag
 |[],l,h,j,o,sz,ag,hn=>by simp [fieldsOf] at h; subst h; simp [nth] at hn
 |f :: fs,l,h,j,o,sz,ag,hn=>by
  unfold fieldsOf at h;split at h
  ·rename_i i u r h1 h2 h3;cases h;cases j with
   |zero=>simp [nth] at hn; obtain ⟨e1,e2,e3⟩:=hn; exact ⟨f,i,u,by simp,e1,h1,e2,h2,e3⟩
   |succ j=>
    obtain ⟨f',fi,u',g1,g2⟩:=nV h3 (show nth r j=some (o,sz,ag) from hn);exact ⟨f',fi,u',by simpa using g1,g2⟩
  ·cases h
theorem oR:∀ {fs:List Field} {l:List (Nat × Nat × Bool)},fieldsOf P fs=some l→fs.mapM (fun f=>(P.info? f.type).map fun i=>(f.offset,i.size))=some (l.map fun x=>(x.1,x.2.1))
 |[],l,h=>by simp [fieldsOf] at h; subst h; simp
 |f :: fs,l,h=>by
  unfold fieldsOf at h;split at h
  ·rename_i i u r h1 h2 h3;cases h;simp [List.mapM_cons,h1,oR h3]
  ·cases h
theorem HQ {u:TypeDesc} {l:List (Nat × Nat × Bool)} (h:ra P u=some (.st l)):∃ fs,u=.struct fs∧fieldsOf P fs.toList=some l:=by
 cases u <;> simp only [ra] at h <;> try (cases h; done)
 all_goals (try (split at h <;> cases h; done))
 rename_i fs;split at h
 ·rename_i l' hl;cases h;exact ⟨fs,rfl,hl⟩
 ·cases h
theorem pq {u:TypeDesc} {n esz:Nat} {ag:Bool} (h:ra P u=some (.arr n esz ag)):∃ e i ue,u=.array n e∧P.info? e=some i∧i.size=esz∧P.underlying e=some ue∧jQ ue=ag:=by
 cases u <;> simp only [ra] at h <;> try (cases h; done)
 all_goals (try (split at h <;> cases h; done))
 rename_i m e;split at h
 ·rename_i i ue h1 h2;cases h;exact ⟨e,i,ue,rfl,h1,rfl,h2,rfl⟩
 ·cases h
theorem eu {u:TypeDesc} {e esz pt:Nat} {ag:Bool} {z:Option AV} (h:ra P u=some (.sl e esz ag pt z)) :
  ∃ i ue,u=.slice e∧P.info? e=some i∧i.size=esz∧i.bytes=pt∧P.underlying e=some ue∧jQ ue=ag∧gb i=z:=by
 cases u <;> simp only [ra] at h <;> try (cases h; done)
 all_goals (try (split at h <;> cases h; done))
 rename_i e';split at h
 ·rename_i i ue h1 h2;injection h with h;injection h with g1 g2 g3 g4 g5;subst g1; subst g2; subst g3; subst g4; subst g5;exact ⟨i,ue,rfl,h1,rfl,rfl,h2,rfl,rfl⟩
 ·cases h
theorem kD {u:TypeDesc} (h:ra P u=some .str):u=.string:=by
 cases u <;> simp only [ra] at h <;> try (cases h; done)
 all_goals (try (split at h <;> cases h; done))
 rfl
theorem sW {u:TypeDesc} {k:IntKind} (h:ra P u=some (.int k)):u=.int k:=by
 cases u <;> simp only [ra] at h <;> try (cases h; done)
 all_goals (try (split at h <;> cases h; done))
 cases h;rfl
theorem mQ {u:TypeDesc} {k e:TypeId} {z:Option AV} (h:ra P u=some (.map k e z)):u=.map k e∧∃ i,P.info? e=some i∧gb i=z:=by
 cases u <;> simp only [ra] at h <;> try (cases h; done)
 all_goals (try (split at h <;> cases h; done))
 split at h
 ·rename_i i h1;cases h;exact ⟨rfl,i,h1,rfl⟩
 ·cases h
end types
section ops
variable {E:Env} {R:ak} {w:World} {β:Nat→Nat} {s:St} {a:Act} {o:Oper}
theorem A2 {p q:SV} {c:Value} {n:Nat} (hp:rm R w β p c) (hm:AT n p=some q) :
  ∃ b o,c=.pointer (some ⟨b,o,none⟩)∧rm R w β q (.pointer (some ⟨b,o+n,none⟩)):=by
 unfold AT at hm;split at hm
 ·cases hm;exact ⟨_,_,hp,rfl⟩
 ·cases hm;cases hp with
  | @ptr _ _ b hb=>exact ⟨b,_,rfl,Rel.ptr hb⟩
 ·cases hm;cases hp with
  | @ep _ b o hr=>
   refine ⟨b,o,rfl,Rel.ep ?_⟩;rw [xF];exact hr.drop n
 ·cases hm;cases hp with
  | @gp _ _ _ _ _ b o _ ro hr eN=>
   refine ⟨b,o,rfl,Rel.gp hr ?_⟩;cases ro with
   |none=>trivial
   |bU=>exact eN.elim
   |ck _=>exact eN.elim
   |bK _=>exact eN.elim
   |tok f1 b1 c1=>exact ⟨eN.1,fun e=>⟨(eN.2 e).1,by rw [(eN.2 e).2,abD]⟩⟩
 ·cases hm
theorem xJ (h:bt E R w β s a) (t:TypeId) (x:Operand) (j:Nat) (ho:o.op=.fieldAddr t x j) {q:SV} (hq:kA E t (bP E s.ae x) j=some q) :
  cu E R w β s a o (s.put o.dst q):=by
 unfold kA at hq;split at hq
 ·rename_i i hi;split at hq
  ·rename_i fs hk;split at hq
   ·rename_i off sz ag hn;split at hq
    ·rename_i e7;have e7:=aae e7;obtain ⟨ia,u,e1,e2,e3,e4,e5,e6⟩:=cD E hi;rw [hk] at e5;obtain ⟨fl,rfl,hf⟩:=HQ e5;obtain ⟨f,fi,u',g1,g2,g3,g4,g5,g6⟩:=nV hf hn;obtain ⟨b,o',m1,m2⟩:=A2 (aW h x) hq;refine ao h ?_ m2;have g1':fl[j]?=some f:=by simpa using g1
     have cS:¬ fi.size=0:=by omega
     simp [execOp,ho,Instr.fieldAt,run_underlying e2,g1',m1,aai,fieldPlace,run_sizeOf w g3,cS,cM,g2]
    ·cases hq
   ·cases hq
  ·cases hq
 ·cases hq
theorem Dr {b o sz:Nat} {es:List AV} (h:gj R w b o sz es) {n:Nat} {e:AV} (hn:nth es n=some e):dV R w b (o+n * sz) e.cells∧e.cells.length=sz∧e.a8=true:=by
 induction es generalizing o n with
 |nil=>simp [nth] at hn
 |cons x l ih=>
  cases h with
  |cons hl ht _ h t=>
   cases n with
   |zero=>simp [nth] at hn; subst hn; exact ⟨by simpa using h,hl,ht⟩
   |succ n=>
    have:=ih t (show nth l n=some e from hn);rw [show o+sz+n * sz=o+(n+1) * sz by rw [aa2]; omega] at this;exact this
theorem xK (h:bt E R w β s a) (t:TypeId) (x ix:Operand) (ho:o.op=.indexAddr t x ix) {q:SV} (hq:kz E t (bP E s.ae x) (bP E s.ae ix)=some (true,q)) :
  cu E R w β s a o (s.put o.dst q):=by
 have rx:=aW h x;have ri:=aW h ix;unfold kz at hq;split at hq
 ·rename_i i k n hi ZE;rw [ZE] at ri;have Uj:Rel R w (.int k n) (a.eval ix):=ri;generalize Pd:a.eval ix=iv at Uj;cases Uj;obtain ⟨ia,u,e1,e2,e3,e4,e5,e6⟩:=cD E hi;split at hq
  ·-- a list
   rename_i elem esz ag pt z kk sz es hk hx;rw [hx] at rx;rw [hk] at e5;obtain ⟨ie,ue,rfl,f1,f2,f3,f4,f5,f6⟩:=eu e5;split at hq
   ·rename_i hc;have key:∀ (u:AV),(0≤n∧n < (es.length:Int))→cW (ah es n.toNat).cells u.cells→cu E R w β s a o (s.put o.dst (.v (.ep u.cells))):=fun u xL hu=>by
     obtain ⟨B6,KI⟩:=xL;have dN:Rel R w (.list kk sz es) (a.eval x):=rx;generalize fu:a.eval x=xv at dN;cases dN with
     |kC=>simp at KI; omega
     |jc=>simp at KI; omega
     |nQ=>simp at KI; omega
     |mN=>simp at KI; omega
     |nR=>simp at KI; omega
     | @list _ _ _ b o' len cap hr hl ib Lb=>
      subst hl;have cm:n.toNat < es.length:=by omega
      obtain ⟨e,he⟩:∃ e,nth es n.toNat=some e:=⟨es[n.toNat],by rw [bi]; exact aap cm⟩;have e7:sz=esz:=by
       simp only [Bool.or_eq_true] at hc;rcases hc with hc|hc
       ·exact aaf hc
       ·cases es with
        |nil=>simp at cm
        |cons _ _=>simp at hc
      obtain ⟨g1,_,_⟩:=Dr hr he;refine ao h (c:=.pointer (some ⟨b,o'+n.toNat * sz,none⟩)) ?_ ?_
      ·have fG:0≤n∧n < (es.length:Int):=⟨B6,KI⟩;simp [execOp,ho,aaZ,Pd,fu,asIntOf,run_underlying e2,fG,run_sizeOf w f1,f2,e7,cM]
      ·have:ah es n.toNat=e:=by simp [ah,he]
       rw [this] at hu;exact .ep (hu.K6 g1)
    split at hq
    ·rename_i p hp;injection hq with hq;injection hq with xL pu;subst pu;rw [aac] at xL;have fG:=of_decide_eq_true xL.1;have hd:=p.dh xL.2;have cm:n.toNat < es.length:=by omega
     refine key _ fG (hd.cells ?_);obtain ⟨e,he⟩:∃ e,nth es n.toNat=some e:=⟨es[n.toNat],by rw [bi]; exact aap cm⟩;have:ah es n.toNat=e:=by simp [ah,he]
     rw [this];have dN:Rel R w (.list kk sz es) (a.eval x):=rx;generalize a.eval x=xv at dN;cases dN with
     |kC=>simp at cm
     |jc=>simp at cm
     |nQ=>simp at cm
     |mN=>simp at cm
     |nR=>simp at cm
     |list hr _ _ _=>exact (Dr hr he).2.2
    ·injection hq with hq;injection hq with xL pu;subst pu;exact key _ (of_decide_eq_true xL) (cW.refl _)
   ·cases hq
  ·-- a heap slice
   rename_i elem esz ag pt z id off sz len cap hk hx;rw [hx] at rx;rw [hk] at e5;obtain ⟨ie,ue,rfl,f1,f2,f3,f4,f5,f6⟩:=eu e5;split at hq
   ·rename_i hc;have e7:=aaf hc;injection hq with hq;injection hq with xL pu;subst pu;have fG:=of_decide_eq_true xL;have dN:Rel R w (.j7 id off sz len cap) (a.eval x):=rx;generalize fu:a.eval x=xv at dN;cases dN with
    | @j7 _ _ _ _ _ b hb _=>
     refine ao h (c:=.pointer (some ⟨b,off+n.toNat * sz,none⟩)) ?_ (Rel.ptr hb);simp [execOp,ho,aaZ,Pd,fu,asIntOf,run_underlying e2,fG,run_sizeOf w f1,f2,e7,cM]
   ·cases hq
  ·-- a slice that grows
   rename_i elem esz ag pt z id f' off sz len hk hx;rw [hx] at rx;rw [hk] at e5;obtain ⟨ie,ue,rfl,f1,f2,f3,f4,f5,f6⟩:=eu e5;split at hq
   ·rename_i hc;have e7:=aaf hc;injection hq with hq;injection hq with xL pu;subst pu;have fG:=of_decide_eq_true xL;have dN:Rel R w (.eF id f' off sz len) (a.eval x):=rx;generalize fu:a.eval x=xv at dN;cases dN with
    |iY _ _=>omega
    | @eF _ _ _ _ _ cap b o' ro b9 eN ib=>
     refine ao h (c:=.pointer (some ⟨b,o'+n.toNat * sz,none⟩)) ?_ (Rel.gp b9 ?_)
     ·simp [execOp,ho,aaZ,Pd,fu,asIntOf,run_underlying e2,fG,run_sizeOf w f1,f2,e7,cM]
     ·cases ro with
      |none=>trivial
      |bU=>exact eN.elim
      |ck _=>exact eN.elim
      |bK _=>exact eN.elim
      |tok f1 b1 c1=>
       refine ⟨eN.1,fun e=>?_⟩;obtain ⟨k1,k2,k3⟩:=eN.2 e;refine ⟨k1,?_⟩;rcases k3 with k3|k3
       ·rw [k3,abN,aa2]
       ·omega
   ·cases hq
  ·-- an array that is never written
   rename_i len esz ag cs hk hx;rw [hx] at rx;rw [hk] at e5;obtain ⟨e,ie,ue,rfl,f1,f2,f3,f4⟩:=pq e5;have dN:Rel R w (.ep cs) (a.eval x):=rx;generalize fu:a.eval x=xv at dN;cases dN with
   | @ep _ b o' hr=>
    split at hq
    ·rename_i p hp;split at hq
     ·rename_i hc;rw [aac] at hc;have hz:=aaf hc.1;have hl:=aae hc.2;injection hq with hq;injection hq with xL pu;subst pu;rw [aac] at xL;have fG:=of_decide_eq_true xL.1;have hd:=p.dh xL.2;have cm:n.toNat < cs.length:=by omega
      have hdr:=hr.drop n.toNat;rw [List.drop_eq_getElem_cons cm] at hdr;have hn:ah cs n.toNat=cs[n.toNat]:=by
       unfold ah;rw [bi,aap cm]
      rw [hn] at hd ⊢;refine ao h (c:=.pointer (some ⟨b,o'+n.toNat * esz,none⟩)) ?_ ?_
      ·simp [execOp,ho,aaZ,Pd,fu,aai,asIntOf,run_underlying e2,fG,run_sizeOf w f1,f2,cM]
      ·subst hz;rw [Nat.mul_one];cases hdr with
       |cons hc h1 hi eD t=>exact .ep (.cons hc h1 hi (hd.1 _ _ _ eD) .nil)
     ·cases hq
    ·injection hq with hq;injection hq with xL pu;subst pu;have fG:=of_decide_eq_true xL;refine ao h (c:=.pointer (some ⟨b,o'+n.toNat * esz,none⟩)) ?_ ?_
     ·simp [execOp,ho,aaZ,Pd,fu,aai,asIntOf,run_underlying e2,fG,run_sizeOf w f1,f2,cM]
     ·rw [xF];exact .ep (hr.drop _)
  ·-- an array
   rename_i len esz ag hk _;rw [hk] at e5;obtain ⟨e,ie,ue,rfl,f1,f2,f3,f4⟩:=pq e5;split at hq
   ·rename_i q' hm;injection hq with hq;injection hq with xL pu;subst pu;have fG:=of_decide_eq_true xL;obtain ⟨b,o',m1,m2⟩:=A2 rx hm;refine ao h ?_ m2;simp [execOp,ho,aaZ,Pd,m1,aai,asIntOf,run_underlying e2,fG,run_sizeOf w f1,f2,cM]
   ·cases hq
  ·cases hq
 ·cases hq
theorem mR {t:TypeId} {i:TypeInfo} {u:TypeDesc} (h1:E.P.info? t=some i) (h2:E.P.underlying t=some u) {off:Nat} {cs l:List AV} {vs:List Value} {v:AV} (hr:aN R w cs vs) (h3:∀ x∈vs,x.oneCell'=true)
  (B7:jQ u=true→HK off i.size cs=some l∧ug true l=some v) (Vl:jQ u=false→HK off 1 cs=some l∧ug false l=some v) :
  ∃ c,(part t ⟨vs⟩ off).run E.P w=.ok c w∧Rel R w v c:=by
 unfold part;simp only [aad,A1 w h2,aab];cases ha:jQ u with
 |true=>
  obtain ⟨g1,g2⟩:=B7 ha;obtain ⟨k1,k2,k3,k4⟩:=qE g1 hr h3;obtain ⟨m1,_⟩:=xI g2 k2 k3;refine ⟨_,?_,m1 rfl⟩;have:(⟨vs⟩:Array Value).extract off (off+i.size)=⟨(vs.drop off).take i.size⟩:=by
   apply aa6;simp [List.extract_eq_take_drop]
  simp [run_sizeOf w h1]
 |false=>
  obtain ⟨g1,g2⟩:=Vl ha;obtain ⟨k1,k2,k3,k4⟩:=qE g1 hr h3;obtain ⟨_,m2⟩:=xI g2 k2 k3;obtain ⟨c,hc,eD⟩:=m2 rfl;refine ⟨c,?_,eD⟩;have h0:=k4 0 c (by rw [hc]; simp);simp only [abN] at h0;simp [h0]
theorem FO (h:bt E R w β s a) (t:TypeId) (x:Operand) (j:Nat) (ho:o.op=.field t x j) {v:AV} (hq:FC E t (bP E s.ae x) j=some v) :
  cu E R w β s a o (s.put o.dst (.v v)):=by
 have rx:=aW h x;unfold FC at hq;split at hq
 ·rename_i i cs hi hx;rw [hx] at rx;have dN:Rel R w (.agg cs) (a.eval x):=rx;generalize fu:a.eval x=xv at dN;cases dN with
  | @agg _ vs hr h1=>
  split at hq
  ·rename_i fs hk;split at hq
   ·rename_i off sz ag hn;obtain ⟨ia,u,e1,e2,e3,e4,e5,e6⟩:=cD E hi;rw [hk] at e5;obtain ⟨fl,rfl,hf⟩:=HQ e5;obtain ⟨f,fi,u',g1,g2,g3,g4,g5,g6⟩:=nV hf hn;have key:∃ c,(part f.type ⟨vs⟩ off).run E.P w=.ok c w∧Rel R w v c:=by
     split at hq
     ·rename_i B7;split at hq
      ·rename_i l hl;exact mR g3 g5 (l:=l) hr h1 (fun _=>⟨by rw [g4]; exact hl,hq⟩) (fun hf=>by rw [g6,B7] at hf; cases hf)
      ·cases hq
     ·rename_i B7;split at hq
      ·rename_i l hl;exact mR g3 g5 (l:=l) hr h1 (fun hf=>by rw [g6] at hf; exact absurd hf B7) (fun _=>⟨hl,hq⟩)
      ·cases hq
    obtain ⟨c,k1,k2⟩:=key;refine ao h ?_ k2;have g1':fl[j]?=some f:=by simpa using g1
    simp [execOp,ho,Instr.field,run_underlying e2,g1',fu,asAgg,g2,k1]
   ·cases hq
  ·cases hq
 ·cases hq
theorem FP (h:bt E R w β s a) (t:TypeId) (x ix:Operand) (ho:o.op=.index t x ix) {v:AV} (hq:FD E t (bP E s.ae x) (bP E s.ae ix)=some (true,v)) :
  cu E R w β s a o (s.put o.dst (.v v)):=by
 have rx:=aW h x;have ri:=aW h ix;unfold FD at hq;split at hq
 ·rename_i i l k n hi hx ZE;rw [hx] at rx;rw [ZE] at ri;have Uj:Rel R w (.int k n) (a.eval ix):=ri;have dN:Rel R w (.str l) (a.eval x):=rx;generalize Pd:a.eval ix=iv at Uj;generalize fu:a.eval x=xv at dN;cases Uj;cases dN;obtain ⟨ia,u,e1,e2,e3,e4,e5,e6⟩:=cD E hi;split at hq
  ·rename_i hk;rw [hk] at e5;have:=kD e5;subst this;injection hq with hq;injection hq with xL pu;subst pu;obtain ⟨B6,KI⟩:=of_decide_eq_true xL;have cm:n.toNat < l.length:=by omega
   refine ao h (c:=.int .u8 (l.getD n.toNat 0).toNat) ?_ (Rel.int _ _);have ka:(⟨⟨l⟩⟩:ByteArray)[n.toNat]?=some (l.getD n.toNat 0):=by
    have hs:n.toNat < (⟨⟨l⟩⟩:ByteArray).size:=cm;rw [getElem?_pos (⟨⟨l⟩⟩:ByteArray) n.toNat hs];congr 1;simp [List.getD,aap cm];rfl
   simp [execOp,ho,Instr.index,Pd,fu,asIntOf,run_underlying e2,B6,ka]
  ·cases hq
 ·rename_i i cs k n hi hx ZE;rw [hx] at rx;rw [ZE] at ri;have Uj:Rel R w (.int k n) (a.eval ix):=ri;have dN:Rel R w (.agg cs) (a.eval x):=rx;generalize Pd:a.eval ix=iv at Uj;generalize fu:a.eval x=xv at dN;cases Uj;cases dN with
  | @agg _ vs hr h1=>
  obtain ⟨ia,u,e1,e2,e3,e4,e5,e6⟩:=cD E hi;split at hq
  ·rename_i len esz ag hk;rw [hk] at e5;obtain ⟨e,ie,ue,rfl,f1,f2,f3,f4⟩:=pq e5;split at hq
   ·rename_i v' Vm;injection hq with hq;injection hq with xL pu;subst pu;have fG:=of_decide_eq_true xL;have key:∃ c,(part e ⟨vs⟩ (n.toNat * esz)).run E.P w=.ok c w∧Rel R w v' c:=by
     split at Vm
     ·rename_i B7;split at Vm
      ·rename_i l hl;exact mR f1 f3 (l:=l) hr h1 (fun _=>⟨by rw [f2]; exact hl,Vm⟩) (fun hf=>by rw [f4,B7] at hf; cases hf)
      ·cases Vm
     ·rename_i B7;split at Vm
      ·rename_i l hl;exact mR f1 f3 (l:=l) hr h1 (fun hf=>by rw [f4] at hf; exact absurd hf B7) (fun _=>⟨hl,Vm⟩)
      ·cases Vm
    obtain ⟨c,k1,k2⟩:=key;refine ao h ?_ k2;simp [execOp,ho,Instr.index,Pd,fu,asIntOf,run_underlying e2,fG,run_sizeOf w f1,f2,k1]
   ·cases hq
  ·cases hq
 ·cases hq
theorem B8 (h:bt E R w β s a) (x:Operand) (j:Nat) (ho:o.op=.extract x j) {vs:List AV} {v:AV} (hx:bP E s.ae x=.v (.bq vs)) (hn:nth vs j=some v) :
  cu E R w β s a o (s.put o.dst (.v v)):=by
 have rx:=aW h x;rw [hx] at rx;have dN:Rel R w (.bq vs) (a.eval x):=rx;generalize fu:a.eval x=xv at dN;cases dN with
 | @bq _ us hr=>
 rw [bi] at hn;obtain ⟨c,h1,h2⟩:=hr.get hn;refine ao h ?_ h2;simp [execOp,ho,Instr.extract,fu,h1]
theorem gV (h:bt E R w β s a):∀ {l:List Operand} {vs:List AV},nL E s.ae l=some vs→aN R w vs (l.map a.eval)
 |[],vs,hl=>by simp [nL] at hl; subst hl; exact .nil
 |x :: l,vs,hl=>by
  unfold nL at hl;split at hl
  ·rename_i v r h1 h2;cases hl;have:=aW h x;rw [h1] at this;exact .cons this (gV h h2)
  ·cases hl
theorem Ak (h:bt E R w β s a) (g:FuncId) (x y:Array Operand) (ho:o.op=.makeFunc (.func g) x y) {p q:List AV} (hp:nL E s.ae x.toList=some p) (hq:nL E s.ae y.toList=some q) :
  cu E R w β s a o (s.put o.dst (.v (.fn g p q))):=by
 have h1:=gV h hp;have h2:=gV h hq;refine ao h (c:=.func (.func g) ⟨x.toList.map a.eval⟩ ⟨y.toList.map a.eval⟩) ?_ (Rel.fn h1 h2);have e1:x.map a.eval=⟨x.toList.map a.eval⟩:=aa6 (by simp);have e2:y.map a.eval=⟨y.toList.map a.eval⟩:=aa6 (by simp);simp [execOp,ho,Instr.makeFunc,e1,e2]
end ops
end Go.Am
namespace Go.Am
open Go
section ops
variable {E:Env} {R:ak} {w:World} {β:Nat→Nat} {s:St} {a:Act} {o:Oper}
theorem size_bytes (l:List UInt8):(⟨⟨l⟩⟩:ByteArray).size=l.length:=rfl
theorem sX (l:List UInt8):(⟨⟨l⟩⟩:ByteArray).toList=l:=by rw [ByteArray.toList_eq]
theorem B9 (l r:List UInt8):((⟨⟨l⟩⟩:ByteArray)++⟨⟨r⟩⟩)=⟨⟨l++r⟩⟩:=by
 apply ByteArray.ext;rw [ByteArray.data_append];simp
theorem Ji (op:BinOp) (t:TypeId) (x y:Operand) (k k':IntKind) (n m:Int):(eqGuard op t x y (.int k n) (.int k' m)).run E.P w=.ok () w:=by
 unfold eqGuard;cases op <;> rfl
theorem Jj (op:BinOp) (t:TypeId) (x y:Operand) (n m:ByteArray):(eqGuard op t x y (.string n) (.string m)).run E.P w=.ok () w:=by
 unfold eqGuard;cases op <;> rfl
theorem FQ (h:bt E R w β s a) (op:BinOp) (t u:TypeId) (x y:Operand) (ho:o.op=.binOp op t x y u) {p q v:AV} (hx:bP E s.ae x=.v p) (hy:bP E s.ae y=.v q) (hv:Dm op p q=some (true,v)) :
  cu E R w β s a o (s.put o.dst (.v v)):=by
 have rx:=aW h x;have ry:=aW h y;rw [hx] at rx;rw [hy] at ry;have dN:Rel R w p (a.eval x):=rx;have rC:Rel R w q (a.eval y):=ry;have key:∃ c,(do eqGuard op t x y (a.eval x) (a.eval y); binOp op t (a.eval x) (a.eval y):Sem Value).run E.P w=.ok c w∧Rel R w v c:=by
  generalize fu:a.eval x=xv at dN;generalize ZF:a.eval y=yv at rC;unfold Dm at hv;split at hv
  ·rename_i k n k' m;cases dN;cases rC;simp only [aad,Ji,aab];split at hv
   ·injection hv with hv;injection hv with h1 h2;subst h2;have hm:=of_decide_eq_true h1;have Vn:¬ m < 0:=by omega
    exact ⟨.int k (k.wrap (n * 2 ^ (min m.toNat k.bits))),by simp [binOp,Op.shift,Vn],.int _ _⟩
   ·injection hv with hv;injection hv with h1 h2;subst h2;have hm:=of_decide_eq_true h1;have Vn:¬ m < 0:=by omega
    exact ⟨.int k (n.fdiv (2 ^ (min m.toNat k.bits))),by simp [binOp,Op.shift,Vn],.int _ _⟩
   ·rename_i Fu hs2;split at hv
    ·rename_i Lb;subst Lb;split at hv
     ·cases hv; exact ⟨.int k (k.wrap (n+m)),by simp [binOp,abU],.int _ _⟩
     ·cases hv; exact ⟨.int k (k.wrap (n - m)),by simp [binOp,abU],.int _ _⟩
     ·cases hv; exact ⟨.int k (k.wrap (n * m)),by simp [binOp,abU],.int _ _⟩
     ·injection hv with hv;injection hv with h1 h2;subst h2;have hm:¬ m=0:=by simpa using h1
      exact ⟨.int k (k.wrap (n.tdiv m)),by simp [binOp,Op.intDiv,hm],.int _ _⟩
     ·injection hv with hv;injection hv with h1 h2;subst h2;have hm:¬ m=0:=by simpa using h1
      exact ⟨.int k (n.tmod m),by simp [binOp,Op.intDiv,hm],.int _ _⟩
     ·cases hv; exact ⟨.int k (I8 k n m),by simp [binOp,Op.intBits,I8],.int _ _⟩
     ·cases hv; exact ⟨.int k (orI k n m),by simp [binOp,Op.intBits,orI],.int _ _⟩
     ·cases hv; exact ⟨.int k (I9 k n m),by simp [binOp,Op.intBits,I9],.int _ _⟩
     ·cases hv; exact ⟨.bool (n == m),by simp [binOp,abx],.bool _⟩
     ·cases hv; exact ⟨.bool (n != m),by simp [binOp,abx],.bool _⟩
     ·cases hv; exact ⟨.bool (decide (n < m)),by simp [binOp,abx],.bool _⟩
     ·cases hv; exact ⟨.bool (decide (n≤m)),by simp [binOp,abx],.bool _⟩
     ·cases hv; exact ⟨.bool (decide (n > m)),by simp [binOp,abx],.bool _⟩
     ·cases hv; exact ⟨.bool (decide (n≥m)),by simp [binOp,abx],.bool _⟩
     ·cases hv
    ·cases hv
  ·rename_i l r;cases dN;cases rC;simp only [aad,Jj,aab];split at hv
   ·injection hv with hv;injection hv with h1 h2;subst h2;have hm:=of_decide_eq_true h1;refine ⟨.string ⟨⟨l++r⟩⟩,?_,.str _⟩;have Vo:¬ ((l.length+r.length:Nat):Int) > IntKind.i64.max:=by
     have:IntKind.i64.max=9223372036854775807:=by decide
     omega
    simp only [binOp,aa0,size_bytes,if_neg Vo,B9,aag]
   ·cases hv; exact ⟨.bool (l == r),by simp [binOp,aa0],.bool _⟩
   ·cases hv; exact ⟨.bool (!(l == r)),by simp [binOp,aa0],.bool _⟩
   ·cases hv; exact ⟨.bool (abS l r),by simp [binOp,aa0],.bool _⟩
   ·cases hv; exact ⟨.bool (abS l r || l == r),by simp [binOp,aa0],.bool _⟩
   ·cases hv; exact ⟨.bool (!(abS l r || l == r)),by simp [binOp,aa0],.bool _⟩
   ·cases hv; exact ⟨.bool (!(abS l r)),by simp [binOp,aa0],.bool _⟩
   ·cases hv
  ·cases hv
 obtain ⟨c,k1,k2⟩:=key;refine ao h (c:=c) ?_ k2;simp only [aad] at k1;simp only [execOp,ho,aad,k1,aab,aag]
theorem kr {t:TypeId} {i:TypeInfo} {u:TypeDesc} (h1:E.P.info? t=some i) (h2:E.P.underlying t=some u) {off:Nat} {cs:List AV} {vs:List Value} {v:AV} (hr:aN R w cs vs) (h3:∀ x∈vs,x.oneCell'=true)
  (h:HL (jQ u) off i.size cs=some v):∃ c,(part t ⟨vs⟩ off).run E.P w=.ok c w∧Rel R w v c:=by
 unfold HL at h;cases ha:jQ u with
 |true=>
  rw [ha] at h;simp only [if_true] at h;split at h
  ·rename_i l hl;exact mR h1 h2 hr h3 (fun _=>⟨hl,h⟩) (fun e=>by rw [ha] at e; cases e)
  ·cases h
 |false=>
  rw [ha] at h;simp only [aa8,if_false] at h;split at h
  ·rename_i l hl;exact mR h1 h2 hr h3 (fun e=>by rw [ha] at e; cases e) (fun _=>⟨hl,h⟩)
  ·cases h
theorem Ds {ek:TypeId→EK} {d:Nat} (ih:∀ (t:TypeId) (a b:AV) (r:Bool) (x y:Value),lA (ek t) a b=some r→Rel R w a x→Rel R w b y→(ab2 d t x y).run E.P w=.ok r w) {xs ys:List AV} {vs us:List Value}
  (hx:aN R w xs vs) (wo:∀ x∈vs,x.oneCell'=true) (hy:aN R w ys us) (PB:∀ x∈us,x.oneCell'=true) :
  ∀ (fs:List Field) (l:Uf) (r:Bool),FB E.P ek fs=some l→uh l xs ys=some r→(Op.eqFields d ⟨vs⟩ ⟨us⟩ fs).run E.P w=.ok r w
 |[],l,r,hl,hr=>by
  simp [FB] at hl;subst hl;simp [uh] at hr;subst hr;rfl
 |f :: fs,l,r,hl,hr=>by
  unfold FB at hl;split at hl
  ·cases hl
  ·rename_i hn;split at hl
   ·rename_i i u l' h1 h2 h3;cases hl;unfold uh at hr;split at hr
    ·rename_i a b ha hb;split at hr
     ·rename_i p q hp hq;cases hr;obtain ⟨c,k1,k2⟩:=kr h1 h2 hx wo ha;obtain ⟨c',k3,k4⟩:=kr h1 h2 hy PB hb;have cS : f.name ≠ "_" := by simpa using hn
      have he:=ih f.type a b p c c' hp k2 k4;have xM:=Ds ih hx wo hy PB fs l' q h3 hq;simp only [Op.eqFields,cS,ne_eq,not_false_eq_true,if_true,aad,k1,k3,he,aab];cases p with
      |true=>simp [xM]
      |false=>simp
     ·cases hr
    ·cases hr
   ·cases hl
theorem A3 {ek:EK} {d:Nat} {e:TypeId} {i:TypeInfo} {u:TypeDesc} (h1:E.P.info? e=some i) (h2:E.P.underlying e=some u) (ih:∀ (a b:AV) (r:Bool) (x y:Value),lA ek a b=some r→Rel R w a x→Rel R w b y→(ab2 d e x y).run E.P w=.ok r w) {xs ys:List AV} {vs us:List Value}
  (hx:aN R w xs vs) (wo:∀ x∈vs,x.oneCell'=true) (hy:aN R w ys us) (PB:∀ x∈us,x.oneCell'=true) :
  ∀ (m k:Nat) (r:Bool),uh (xy i.size (jQ u) ek m k) xs ys=some r→(Op.eqItems d e i.size ⟨vs⟩ ⟨us⟩ (List.range' k m)).run E.P w=.ok r w
 |0,k,r,hr=>by
  simp [xy,uh] at hr;subst hr;rfl
 |m+1,k,r,hr=>by
  unfold xy uh at hr;split at hr
  ·rename_i a b ha hb;split at hr
   ·rename_i p q hp hq;cases hr;obtain ⟨c,k1,k2⟩:=kr h1 h2 hx wo ha;obtain ⟨c',k3,k4⟩:=kr h1 h2 hy PB hb;have he:=ih a b p c c' hp k2 k4;have xM:=A3 h1 h2 ih hx wo hy PB m (k+1) q hq;simp only [List.range'_succ,Op.eqItems,aad,k1,k3,he,aab];cases p with
    |true=>simpa using xM
    |false=>simp
   ·cases hr
  ·cases hr
theorem Ca:∀ (n d:Nat),n≤d→∀ (t:TypeId) (a b:AV) (r:Bool) (x y:Value),lA (rk E.P n t) a b=some r→Rel R w a x→Rel R w b y→(ab2 d t x y).run E.P w=.ok r w
 |0,_,_,t,a,b,r,x,y,h,_,_=>by simp [rk,lA] at h
 |n+1,0,hd,_,_,_,_,_,_,_,_,_=>by omega
 |n+1,d+1,hd,t,a,b,r,x,y,h,hx,hy=>by
  unfold rk at h;split at h
  ·rename_i hu;unfold lA at h;split at h
   all_goals (try contradiction)
   cases hx; cases hy; cases h;exact run_equalIn_bool' w d t _ _ hu
  ·rename_i k hu;unfold lA at h;split at h
   all_goals (try contradiction)
   split at h
   ·rename_i hk;subst hk;cases hx; cases hy; cases h;exact run_equalIn_int w d t _ k _ _ hu
   ·cases h
  ·rename_i hu;unfold lA at h;split at h
   all_goals (try contradiction)
   cases hx; cases hy; cases h;rw [run_equalIn_string w d t _ _ hu,sX,sX]
  ·rename_i fs hu;split at h
   ·simp [lA] at h
   ·rename_i hs;split at h
    ·rename_i l hl;unfold lA at h;split at h
     all_goals (try contradiction)
     rename_i Vp xs ys hk;cases hk;cases hx with
     |agg hx wo=>
     cases hy with
     |agg hy PB=>
     have hf:E.P.fieldsOf t=fs:=by simp [Program.fieldsOf,hu]
     rw [run_equalIn_struct w d t _ _ (by rw [hf]; exact hu) (by simpa using hs),hf];exact Ds (fun t a b r x y=>Ca n d (by omega) t a b r x y) hx wo hy PB fs.toList _ r hl h
    ·simp [lA] at h
  ·rename_i m e hu;split at h
   ·rename_i i ud g1 g2;unfold lA at h;split at h
    all_goals (try contradiction)
    rename_i Vp xs ys hk;cases hk;cases hx with
    |agg hx wo=>
    cases hy with
    |agg hy PB=>
    have qF:E.P.cellsOf e=i.size:=by simp [Program.cellsOf,g1]
    rw [run_equalIn_array (P:=E.P) w d _ _ hu g1,qF,List.range_eq_range'];exact A3 g1 g2 (fun a b r x y=>Ca n d (by omega) e a b r x y) hx wo hy PB m 0 r h
   ·simp [lA] at h
  ·simp [lA] at h
theorem ks {t:TypeId} {i:TI} (hi:E.ti t=some i) {p q:AV} {r:Bool} {x y:Value} (h:lA i.ek p q=some r) (hx:Rel R w p x) (hy:Rel R w q y) :
  (ab2 10000 t x y).run E.P w=.ok r w∧((∃ b c,x=.bool b∧y=.bool c)∨(∃ k n k' m,x=.int k n∧y=.int k' m)∨(∃ n m,x=.string n∧y=.string m)∨(∃ n m,x=.agg n∧y=.agg m∧E.P.eqGuardType E.P.depth t=false)):=by
 have A4:i.ek=vp E.P t:=by
  have:=E.I7 t i hi;unfold I6 at this;split at this
  ·split at this
   ·cases this; rfl
   ·cases this
  ·cases this
 rw [A4] at h;have hg:lA (rk E.P 6 t) p q=some r∧((∃ l,rk E.P 6 t=.st l)→E.P.eqGuardType E.P.depth t=false):=by
  unfold vp at h;split at h
  ·rename_i l hl;split at h
   ·simp [lA] at h
   ·rename_i Jk;exact ⟨by rw [hl]; exact h,fun _=>by simpa using Jk⟩
  ·rename_i k hk;exact ⟨h,fun ⟨l,hl⟩=>absurd hl (hk l)⟩
 refine ⟨Ca 6 10000 (by omega) t p q r x y hg.1 hx hy,?_⟩;have h2:=hg.1;have h3:=hg.2;generalize rk E.P 6 t=k at h2 h3;unfold lA at h2;split at h2
 ·cases hx; cases hy; exact .inl ⟨_,_,rfl,rfl⟩
 ·cases hx; cases hy; exact .inr (.inl ⟨_,_,_,_,rfl,rfl⟩)
 ·cases hx; cases hy; exact .inr (.inr (.inl ⟨_,_,rfl,rfl⟩))
 ·cases hx; cases hy; exact .inr (.inr (.inr ⟨_,_,rfl,rfl,h3 ⟨_,rfl⟩⟩))
 ·cases h2
theorem Lc (h:bt E R w β s a) (op:BinOp) (t u:TypeId) (x y:Operand) (ho:o.op=.binOp op t x y u) {p q:AV} {r:Bool} (hx:bP E s.ae x=.v p) (hy:bP E s.ae y=.v q) (hb:Dm op p q=none) (hv:eqO E op t p q=some r) :
  cu E R w β s a o (s.put o.dst (.v (.bool r))):=by
 have rx:=aW h x;have ry:=aW h y;rw [hx] at rx;rw [hy] at ry;have dN:Rel R w p (a.eval x):=rx;have rC:Rel R w q (a.eval y):=ry;have key:(do eqGuard op t x y (a.eval x) (a.eval y); binOp op t (a.eval x) (a.eval y):Sem Value).run E.P w=.ok (.bool r) w:=by
  generalize fu:a.eval x=xv at dN;generalize ZF:a.eval y=yv at rC;unfold eqO at hv;split at hv
  ·rename_i i hi;obtain ⟨k1,k2⟩:=ks hi hv dN rC;rcases k2 with ⟨b,c,rfl,rfl⟩|⟨k,n,k',m,rfl,rfl⟩|⟨n,m,rfl,rfl⟩|⟨n,m,rfl,rfl,hg⟩
   ·have FR:(eqGuard .eql t x y (.bool b) (.bool c)).run E.P w=.ok () w:=rfl;simp [FR,binOp,Op.equal,Op.maxDepth,k1]
   ·cases dN; cases rC; simp [Dm] at hb;cases hk:i.ek <;> simp [hk,lA] at hv;exact absurd hv.1 hb
   ·cases dN; cases rC; simp [Dm] at hb
   ·simp only [aad,run_eqGuard_agg w _ t x y n m hg,aab,run_eql_struct,k1]
  ·rename_i i hi;split at hv
   ·rename_i r' ms;cases hv;obtain ⟨k1,k2⟩:=ks hi ms dN rC;rcases k2 with ⟨b,c,rfl,rfl⟩|⟨k,n,k',m,rfl,rfl⟩|⟨n,m,rfl,rfl⟩|⟨n,m,rfl,rfl,hg⟩
    ·have FR:(eqGuard .neq t x y (.bool b) (.bool c)).run E.P w=.ok () w:=rfl;simp [FR,binOp,Op.equal,Op.maxDepth,k1]
    ·cases dN; cases rC; simp [Dm] at hb;cases hk:i.ek <;> simp [hk,lA] at ms;exact absurd ms.1 hb
    ·cases dN; cases rC; simp [Dm] at hb
    ·simp only [aad,run_eqGuard_agg w _ t x y n m hg,aab,run_neq_struct,k1]
   ·cases hv
  ·cases hv
 refine ao h (c:=.bool r) ?_ (.bool r);simp only [aad] at key;simp only [execOp,ho,aad,key,aab,aag]
theorem Ld (h:bt E R w β s a) (t:TypeId) (x:Operand) (ho:o.op=.unOp .not t x) {b:Bool} (hx:bP E s.ae x=.v (.bool b)):cu E R w β s a o (s.put o.dst (.v (.bool (!b)))):=by
 have rx:=aW h x;rw [hx] at rx;have dN:Rel R w (.bool b) (a.eval x):=rx;generalize fu:a.eval x=xv at dN;cases dN;refine ao h (c:=.bool (!b)) ?_ (Rel.bool _);simp [execOp,ho,Op.unary,fu]
theorem Le (h:bt E R w β s a) (t:TypeId) (x:Operand) (ho:o.op=.unOp .neg t x) {k:IntKind} {n:Int} (hx:bP E s.ae x=.v (.int k n)):cu E R w β s a o (s.put o.dst (.v (.int k (k.wrap (0 - n))))):=by
 have rx:=aW h x;rw [hx] at rx;have dN:Rel R w (.int k n) (a.eval x):=rx;generalize fu:a.eval x=xv at dN;cases dN;refine ao h (c:=.int k (k.wrap (0 - n))) ?_ (Rel.int _ _);simp [execOp,ho,Op.unary,abU,fu]
theorem A5:∀ (us:List Value) (off j0:Nat) (cells:Array Value),off+j0+us.length≤cells.size →
  ((us.zipIdx j0).foldl (fun (cs:Array Value) (p:Value × Nat)=>cs.setIfInBounds (off+p.2) p.1) cells).toList=cells.toList.take (off+j0)++us++cells.toList.drop (off+j0+us.length)
 |[],off,j0,cells,_=>by simp
 |u :: us,off,j0,cells,h=>by
  have cm:off+j0 < cells.size:=by simp at h; omega
  have ih:=A5 us off (j0+1) (cells.setIfInBounds (off+j0) u) (by simp at h ⊢; omega);simp only [List.zipIdx_cons,List.foldl_cons];rw [ih];have e:=list_seg_step cells.toList (off+j0) u us (by simp at h ⊢; omega);simpa [Array.toList_setIfInBounds,abD] using e
theorem pw (place:Nat→Option (Nat × Nat)):∀ {ps:List (Nat × AV)} {qs:List (Nat × Value)} {cells xN:List AV} {vs:List Value},
  aN R w (ps.map (·.2)) (qs.map (·.2))→ps.map (·.1)=qs.map (·.1)→aN R w cells vs→(∀ x∈vs,x.oneCell'=true)→vq place cells ps=some xN →
  ∃ us,abI place ⟨vs⟩ qs=some ⟨us⟩∧aN R w xN us∧∀ x∈us,x.oneCell'=true
 |[],qs,cells,xN,vs,h1,h2,h3,h4,h5=>by
  have:qs=[]:=by simpa using h2.symm
  subst this;simp [vq] at h5;subst h5;exact ⟨vs,rfl,h3,h4⟩
 |(i,v) :: ps,[],cells,xN,vs,h1,h2,h3,h4,h5=>by simp at h2
 |(i,v) :: ps,(j,c) :: qs,cells,xN,vs,h1,h2,h3,h4,h5=>by
  simp only [acz,List.cons.injEq] at h2;obtain ⟨rfl,h2⟩:=h2;cases h1 with
  |cons hr h1=>
  unfold vq at h5;split at h5
  ·cases h5
  ·rename_i off sz hp;split at h5
   ·rename_i fG;simp only [aac] at fG;obtain ⟨⟨Pb,hlen⟩,hle⟩:=fG;have hlen:=aaf hlen;have hle:=aae hle;obtain ⟨c1,c2⟩:=Rel.cells hr Pb;have Fv:c.cells.toList.length=sz:=by rw [← c1.length]; exact hlen
    have hb:off+v.cells.length≤cells.length:=by omega
    obtain ⟨us,u1,u2,u3⟩:=pw place h1 h2 (h3.bh c1 hb) (je h4 c2) h5;refine ⟨us,?_,u2,u3⟩;have e7:c.cells.size=sz:=by simpa using Fv
    have Uk:vs.length=cells.length:=h3.length.symm;have ZG:c.cells.zipIdx.foldl (fun (cs:Array Value) (x:Value × Nat)=>cs.setIfInBounds (off+x.2) x.1) ⟨vs⟩=⟨vs.take off++c.cells.toList++vs.drop (off+c.cells.toList.length)⟩:=by
     apply aa6;rw [← Array.foldl_toList,Array.toList_zipIdx];have:=A5 c.cells.toList off 0 ⟨vs⟩ (by simp only [List.size_toArray]; omega);simpa using this
    have cT:(c.cells.size≠sz || decide (off+c.cells.size > (⟨vs⟩:Array Value).size))=false:=by
     have Fu:decide (c.cells.size≠sz)=false:=by simp [e7]
     have hs2:decide (off+c.cells.size > (⟨vs⟩:Array Value).size)=false:=by
      rw [decide_eq_false_iff_not,e7];show ¬ off+sz > vs.length;omega
     rw [Fu,hs2];rfl
    unfold abI;simp only [hp,cT,aa8,if_false];rw [← u1];exact congrArg (fun z=>abI place z qs) ZG
   ·cases h5
theorem wR (h:bt E R w β s a):∀ {l:List (Nat × Operand)} {ps:List (Nat × AV)},Pa E s.ae l=some ps →
  aN R w (ps.map (·.2)) ((l.map fun x=>(x.1,a.eval x.2)).map (·.2))∧ps.map (·.1)=(l.map fun x=>(x.1,a.eval x.2)).map (·.1)
 |[],ps,hl=>by simp [Pa] at hl; subst hl; exact ⟨.nil,rfl⟩
 |(i,x) :: l,ps,hl=>by
  unfold Pa at hl;split at hl
  ·rename_i v r h1 h2;cases hl;have hx:=aW h x;rw [h1] at hx;obtain ⟨g1,g2⟩:=wR h h2;exact ⟨.cons hx g1,by simpa using g2⟩
  ·cases hl
theorem FT (h:bt E R w β s a) (t:TypeId) (parts:Array (Nat × Operand)) (ho:o.op=.build t parts) {v:AV} (hv:nN E s t parts.toList=some v) :
  cu E R w β s a o (s.put o.dst (.v v)):=by
 unfold nN at hv;split at hv
 ·rename_i i ps hi Jl;split at hv
  ·rename_i z hz;split at hv
   ·rename_i cs qF;split at hv
    ·rename_i B7;cases hv;simp only [aac] at B7;obtain ⟨B7,sI⟩:=B7;obtain ⟨ia,u,e1,e2,e3,e4,e5,e6⟩:=cD E hi;rw [hz] at e6;obtain ⟨zc,tX,Fw⟩:=dp e6;obtain ⟨p1,p2⟩:=wR h Jl;obtain ⟨c1,c2⟩:=Rel.cells (Fw R w) sI;have Vq:(parts.map fun (x:Nat × Operand)=>(x.1,a.eval x.2)).toList=parts.toList.map fun x=>(x.1,a.eval x.2):=by simp
     have key:∃ us,E.P.built t (parts.toList.map fun x=>(x.1,a.eval x.2))=some ⟨us⟩∧aN R w cs us∧∀ x∈us,x.oneCell'=true:=by
      cases u <;> simp only [jQ] at e4 <;> first | (rw [B7] at e4; cases e4; done) | skip
      ·rename_i n e;simp only [ra] at e5;split at e5
       ·rename_i ie ue f1 f2;injection e5 with e5;rw [← e5] at qF;obtain ⟨us,u1,u2,u3⟩:=pw (R:=R) (w:=w) _ p1 p2 c1 c2 qF;refine ⟨us,?_,u2,u3⟩;unfold Program.built;simp only [e1,e2,tX,f1];rw [← u1];rfl
       ·cases e5
      ·rename_i fs;simp only [ra] at e5;split at e5
       ·rename_i l hl;injection e5 with e5;rw [← e5] at qF;obtain ⟨us,u1,u2,u3⟩:=pw (R:=R) (w:=w) _ p1 p2 c1 c2 qF;refine ⟨us,?_,u2,u3⟩;unfold Program.built;simp only [e1,e2,tX,oR hl];rw [← u1];have YS:placeOf (.st l)=fun j=>(l.map fun x=>(x.1,x.2.1)).toArray[j]?:=by
         funext j;simp only [placeOf,bi,List.getElem?_toArray,List.getElem?_map];cases l[j]? <;> rfl
        rw [YS]
       ·cases e5
     obtain ⟨us,u1,u2,u3⟩:=key;refine ao h (c:=.agg ⟨us⟩) ?_ (Rel.agg u2 u3);have bM:=run_build (P:=E.P) w t (parts.map fun (x:Nat × Operand)=>(x.1,a.eval x.2)) ⟨us⟩ (by rw [Vq]; exact u1);simp only [execOp,ho,aad,bM,aab,aag]
    ·cases hv
   ·cases hv
  ·cases hv
 ·cases hv
end ops
end Go.Am
namespace Go.Am
open Go
theorem c8 (l r:List AV):aq (l++r)=aq l++aq r:=by
 induction l with
 |nil=>rfl
 |cons e l ih=>simp [aq,ih]
theorem dO {sz:Nat} {es:List AV} (h:jv sz es):(aq es).length=es.length * sz:=by
 induction es with
 |nil=>simp [aq]
 |cons e es ih=>
  have h1:=(h e (by simp)).1;have:=ih (fun x hx=>h x (by simp [hx]));simp only [aq,aby,this,h1,List.length_cons,aa2];omega
section rel
variable {R:ak} {w:World}
theorem mS {b sz:Nat}:∀ {es:List AV} {o:Nat},jv sz es→dV R w b o (aq es)→gj R w b o sz es
 |[],_,_,_=>.nil
 |e :: es,o,h,hc=>by
  obtain ⟨h1,h2,h3⟩:=h e (by simp);obtain ⟨vs,k1,k2,k3,k4⟩:=hc.get;have hd:=hc.drop sz;have ZH:(aq (e :: es)).drop sz=aq es:=by simp only [aq]; rw [← h1,List.drop_left]
  have Lf:(aq (e :: es)).take sz=e.cells:=by simp only [aq]; rw [← h1,List.take_left]
  rw [ZH] at hd;refine .cons h1 h2 h3 ?_ (mS (fun x hx=>h x (by simp [hx])) hd);have kt:=k1.take sz;rw [Lf] at kt;refine .make kt (fun v hv=>k2 v (aa5 hv)) (fun j v hv=>k3 j v ?_) (fun j hj=>k4 j ?_)
  ·rw [List.getElem?_take] at hv;split at hv
   ·exact hv
   ·cases hv
  ·simp only [aq,aby];omega
theorem xO {b sz:Nat}:∀ {es:List AV} {o:Nat},gj R w b o sz es→jv sz es∧∃ vs,aN R w (aq es) vs∧(∀ v∈vs,v.oneCell'=true)∧(∀ j v,vs[j]?=some v→w.cell? ⟨b,o+j,none⟩=some v)∧∀ j,j < es.length * sz→R.I b (o+j)
 |[],o,_=>⟨fun e he=>by simp at he,[],.nil,by simp,by simp,by simp⟩
 |e :: es,o,h=>by
  cases h with
  |cons hl ht hk hc t=>
   obtain ⟨g0,vs,g1,g2,g3,g4⟩:=xO t;obtain ⟨us,f1,f2,f3,f4⟩:=hc.get;have hlen:us.length=sz:=by rw [← f1.length,hl]
   refine ⟨fun x hx=>?_,us++vs,f1.append g1,fun v hv=>?_,fun j v hv=>?_,fun j hj=>?_⟩
   ·rcases List.mem_cons.1 hx with rfl|hx
    ·exact ⟨hl,ht,hk⟩
    ·exact g0 x hx
   ·rcases abT.1 hv with hv|hv
    ·exact f2 v hv
    ·exact g2 v hv
   ·by_cases hj:j < sz
    ·rw [List.getElem?_append_left (by omega)] at hv;exact f3 j v hv
    ·rw [List.getElem?_append_right (by omega),hlen] at hv;have:=g3 _ v hv;rwa [show o+sz+(j - sz)=o+j by omega] at this
   ·by_cases Pe:j < sz
    ·exact f4 j (by omega)
    ·have:=g4 (j - sz) (by simp only [List.length_cons,aa2] at hj; omega);rwa [show o+sz+(j - sz)=o+j by omega] at this
theorem A6 {b sz:Nat}:∀ (n:Nat) {es:List AV} {o:Nat},gj R w b o sz es→gj R w b (o+n * sz) sz (es.drop n)
 |0,es,o,h=>by simpa using h
 |n+1,[],o,h=>by simpa using gj.nil
 |n+1,e :: es,o,h=>by
  cases h with
  |cons hl ht hk hc t=>
   have:=A6 n t;rw [show o+sz+n * sz=o+(n+1) * sz by rw [aa2]; omega] at this;simpa using this
theorem uq {b sz:Nat}:∀ (n:Nat) {es:List AV} {o:Nat},gj R w b o sz es→gj R w b o sz (es.take n)
 |0,es,o,h=>by simpa using gj.nil
 |n+1,[],o,h=>by simpa using gj.nil
 |n+1,e :: es,o,h=>by
  cases h with
  |cons hl ht hk hc t=>simpa using gj.cons hl ht hk hc (uq n t)
end rel
theorem fQ {sz n:Nat} {z:AV} (h1:z.cells.length=sz) (h2:z.a8=true) (h3:z.closed=true):jv sz (aao n z):=fun e he=>by
 rw [List.mem_replicate] at he;rw [he.2];exact ⟨h1,h2,h3⟩
theorem xP {sz:Nat}:∀ {es:List AV} {i:Nat} {v:AV},jv sz es→i < es.length→v.cells.length=sz→aq (aI es i v)=bh (aq es) (i * sz) v.cells
 |[],i,v,_,h,_=>by simp at h
 |e :: es,0,v,h,_,hv=>by
  have h1:=(h e (by simp)).1;simp only [aI,aq,acU];rw [eT _ 0 _ (by simp; omega)];simp only [List.take_zero,List.nil_append,Nat.zero_add];rw [hv,← h1,List.drop_left]
 |e :: es,i+1,v,h,hi,hv=>by
  have h1:=(h e (by simp)).1;have KJ:jv sz es:=fun x hx=>h x (by simp [hx])
  have ih:=xP (i:=i) (v:=v) KJ (by simpa using hi) hv;have cm:i < es.length:=by simpa using hi
  have hle:i * sz+sz≤es.length * sz:=by rw [← acV]; exact ace _ cm
  have hl:=dO KJ;simp only [aI,aq];have e1:(i+1) * sz=e.cells.length+i * sz:=by rw [h1,acV]; omega
  have e2:List.take (e.cells.length+i * sz) e.cells=e.cells:=List.take_of_length_le (by omega);rw [ih,eT _ _ _ (by omega),e1,eT _ _ _ (by simp only [aby]; omega)];rw [List.take_append,e2,abD,List.drop_append,List.drop_of_length_le (by omega:e.cells.length≤e.cells.length+(i * sz+v.cells.length))];simp [Nat.add_sub_cancel_left]
theorem Jm {sz:Nat} {es:List AV} {i:Nat} {v:AV} (h:jv sz es) (h1:v.cells.length=sz) (h2:v.a8=true) (h3:v.closed=true):jv sz (aI es i v):=fun e he=>by
 rw [gk] at he;rcases List.mem_or_eq_of_mem_set he with he|rfl
 ·exact h e he
 ·exact ⟨h1,h2,h3⟩
theorem vv {sz:Nat}:∀ {ps:List (Nat × AV)} {es es':List AV},Dn sz es ps=some es'→jv sz es →
  vq (fun i=>some (i * sz,sz)) (aq es) ps=some (aq es')∧jv sz es'∧es'.length=es.length
 |[],es,es',h,hk=>by simp [Dn] at h; subst h; exact ⟨rfl,hk,rfl⟩
 |(i,v) :: ps,es,es',h,hk=>by
  unfold Dn at h;split at h
  ·rename_i hc;simp only [aac] at hc;obtain ⟨⟨⟨hn,hl⟩,hi⟩,Dt⟩:=hc;have hl':=aaf hl;have um:=aae hi;obtain ⟨g1,g2,g3⟩:=vv h (Jm hk hl' hn Dt);refine ⟨?_,g2,by simpa using g3⟩;unfold vq;have hle:Nat.ble (i * sz+sz) (aq es).length=true:=by
    apply Nat.ble_eq_true_of_le;rw [dO hk,← acV];exact ace _ um
   simp only [hn,hl,hle,Bool.and_self,if_true];rw [← xP hk (by omega) hl'];exact g1
  ·cases h
section ops
variable {E:Env} {R:ak} {w:World} {β:Nat→Nat} {s:St} {a:Act} {o:Oper}
def ak.YT (R:ak) (b:Nat):ak:=⟨fun b' o=>R.I b' o∨b'=b,R.obj⟩
theorem Cb (wf:∀ b o,R.I b o→b < w.heap.size) (x:Obj):Ext R w (R.YT w.heap.size) (w.alloc x):=
 ⟨fun _ _ h=>.inl h,fun b o h=>cn (heap_alloc_old w x b (wf b o h)) o,fun _ ro h=>⟨ro,h,cJ.refl ro⟩,.old fun b hb=>heap_alloc_old w x b hb⟩
theorem bt.YT (h:bt E R w β s a) (x:Obj):bt E (R.YT w.heap.size) (w.alloc x) β s a:=
 h.aY (Cb h.g.wf x) rfl (fun b hb=>heap_alloc_old w x b (h.eC hb)) (fun b o hb hi=>by
  rcases hi with hi|hi
  ·exact hi
  ·have:=h.eC hb;omega) (fun b o hi=>by
  rcases hi with hi|hi
  ·have:=h.g.wf b o hi;simp;omega
  ·simp;omega)
theorem Lg (h:bt E R w β s a) (x:Obj):Step R w β s.boxes (R.YT w.heap.size) (w.alloc x) β s.boxes:=
 ⟨Cb h.g.wf x,rfl,rfl,rfl,by simp,fun b hb _=>heap_alloc_old w x b hb,fun _ _ ho=>ho,fun b o hi hb _=>by
  rcases hi with hi|hi
  ·exact hi
  ·omega⟩
theorem px (z:Array Value):∀ (n:Nat),(((aa7 (n * z.size)).map fun i=>z[i % z.size]!)).toList=(aao n z.toList).flatten
 |0=>by simp
 |n+1=>by
  have ih:=px z n;simp only [Array.toList_map,Array.toList_range] at ih ⊢;rw [aa2,Nat.one_mul,List.range_add,List.map_append,ih,List.replicate_succ',List.flatten_append];congr 1;simp only [List.map_map,List.flatten_cons,List.flatten_nil,List.append_nil];apply List.ext_getElem?;intro i;by_cases hi:i < z.size
  ·simp only [List.getElem?_map,List.getElem?_range hi,Option.map_some,Function.comp_apply];rw [Nat.mul_comm n,Nat.mul_add_mod,Nat.mod_eq_of_lt hi];simp [hi]
  ·rw [abW (by simp; omega),abW (by simp; omega)]
theorem mT {z:AV} {c:Value} (hr:Rel R w z c) (hn:z.a8=true):∀ (n:Nat),aN R w (aq (aao n z)) (aao n c.cells.toList).flatten∧∀ v∈(aao n c.cells.toList).flatten,v.oneCell'=true
 |0=>by simp [aq]; exact .nil
 |n+1=>by
  obtain ⟨c1,c2⟩:=Rel.cells hr hn;obtain ⟨h1,h2⟩:=mT hr hn n;refine ⟨?_,fun v hv=>?_⟩
  ·simpa [acS,aq] using c1.append h1
  ·simp only [acS,List.flatten_cons,abT] at hv;rcases hv with hv|hv
   ·exact c2 v hv
   ·exact h2 v hv
theorem ur:∀ {ps:List (Nat × AV)} {us:List Value},aN R w (ps.map (·.2)) us→aN R w ((AU ps).map (·.2)) us
 |[],_,h=>h
 |(_,_) :: _,_,.cons h t=>.cons h.hY (ur t)
theorem uu:∀ (ps:List (Nat × AV)),(AU ps).map (·.1)=ps.map (·.1)
 |[]=>rfl
 |(i,v) :: l=>by simp [AU,uu l]
theorem iK (h:bt E R w β s a) (t:TypeId) (len:Nat) (parts:Array (Nat × Operand)) (ho:o.op=.buildSlice t len parts) {v:AV} (hv:cp E s t len parts.toList=some v) :
  ∃ es esz us elem,v=.list .full esz es∧(execOp a.eval o).run E.P w=.ok (.value (.slice (some ⟨w.heap.size,0,none⟩) len len)) (w.alloc (.cells ⟨us⟩ elem))∧jv esz es∧es.length=len∧aN R w (aq es) us∧(∀ x∈us,x.oneCell'=true)∧∃ i ag pt z,E.ti t=some i∧i.k=.sl elem esz ag pt z:=by
 unfold cp at hv;split at hv
 ·rename_i i ps hi Jl;split at hv
  ·rename_i elem esz ag pt z hk;split at hv
   ·rename_i hc;simp only [aac] at hc;obtain ⟨⟨⟨⟨Dd,ZI⟩,ZJ⟩,hz4⟩,hz5⟩:=hc;have Dd:=aaf Dd;have ZI:=aae ZI;have ZJ:=aae ZJ;split at hv
    ·rename_i es KJ;cases hv;obtain ⟨ia,u,e1,e2,e3,e4,e5,e6⟩:=cD E hi;rw [hk] at e5;obtain ⟨ie,ue,rfl,f1,f2,f3,f4,f5,f6⟩:=eu e5;obtain ⟨zc,tX,Fw⟩:=dp f6;have Ul:=Fw R w;obtain ⟨c1,c2⟩:=Rel.cells Ul hz4;have qF:zc.cells.size=esz:=by rw [← Dd,c1.length]; simp
     obtain ⟨p1,p2⟩:=wR h Jl;obtain ⟨z1,z2⟩:=mT Ul hz4 len;obtain ⟨g1,g2,g3⟩:=vv KJ (fQ Dd hz4 hz5);obtain ⟨us,u1,u2,u3⟩:=pw (R:=R) (w:=w) _ (ur p1) ((uu ps).trans p2) z1 z2 g1;have Vq:(parts.map fun (x:Nat × Operand)=>(x.1,a.eval x.2)).toList=parts.toList.map fun x=>(x.1,a.eval x.2):=by simp
     have xQ:((aa7 (len * esz)).map fun i=>zc.cells[i % zc.cells.size]!)=⟨(aao len zc.cells.toList).flatten⟩:=by
      apply aa6;rw [← qF];exact px zc.cells len
     have hlen:es.length=len:=by simpa using g3
     have bM:(aaF t len (parts.map fun (x:Nat × Operand)=>(x.1,a.eval x.2))).run E.P w=.ok (.slice (some ⟨w.heap.size,0,none⟩) len len) (w.alloc (.cells ⟨us⟩ elem)):=by
      have Jk:¬ len * esz > 2 ^ 24:=by omega
      by_cases h0:len * esz=0
      ·have uv:len=0:=by
        rcases Nat.mul_eq_zero.1 h0 with h0|h0 <;> omega
       subst uv;have u1':abI (fun i=>some (i * esz,esz)) #[] (parts.toList.map fun x=>(x.1,a.eval x.2))=some ⟨us⟩:=by simpa using u1
       simp only [aaF,aad,run_underlying e2,aab,run_sizeOf w f1,f2];simp only [acU,gt_iff_lt,Nat.not_lt_zero,if_false,if_true,aad,aag,aab,Vq];have Du:∀ f:Nat→Value,Array.map f (aa7 0)=#[]:=fun f=>by simp
       simp only [Du,u1',newRow,aad,run_newObj,aab,aag];rfl
      ·simp only [aaF,aad,run_underlying e2,aab,run_sizeOf w f1,f2];rw [if_neg Jk,if_neg h0];simp only [aad,aag,aab,gK w f1 tX,Vq,xQ,u1,newRow,run_newObj];rfl
     exact ⟨es,esz,us,elem,rfl,by simp only [execOp,ho,aad,bM,aab,aag],g2,hlen,u2,u3,i,ag,pt,_,hi,hk⟩
    ·cases hv
   ·cases hv
  ·cases hv
 ·cases hv
theorem wq (h:bt E R w β s a) (t:TypeId) (len:Nat) (parts:Array (Nat × Operand)) (ho:o.op=.buildSlice t len parts) {cs:List AV} (hv:j8 E s t len parts.toList=some cs) :
  ∃ esz us elem,(execOp a.eval o).run E.P w=.ok (.value (.slice (some ⟨w.heap.size,0,none⟩) len len)) (w.alloc (.cells ⟨us⟩ elem))∧aN R w cs us∧(∀ x∈us,x.oneCell'=true)∧∃ i ag pt z,E.ti t=some i∧i.k=.sl elem esz ag pt z:=by
 unfold j8 at hv;split at hv
 ·rename_i i ps hi Jl;split at hv
  ·rename_i elem esz ag pt z hk;split at hv
   ·rename_i hc;simp only [aac] at hc;obtain ⟨⟨⟨Dd,ZI⟩,ZJ⟩,hz4⟩:=hc;have Dd:=aaf Dd;have ZI:=aae ZI;have ZJ:=aae ZJ
    ·have g1:=hv;obtain ⟨ia,u,e1,e2,e3,e4,e5,e6⟩:=cD E hi;rw [hk] at e5;obtain ⟨ie,ue,rfl,f1,f2,f3,f4,f5,f6⟩:=eu e5;obtain ⟨zc,tX,Fw⟩:=dp f6;have Ul:=Fw R w;obtain ⟨c1,c2⟩:=Rel.cells Ul hz4;have qF:zc.cells.size=esz:=by rw [← Dd,c1.length]; simp
     obtain ⟨p1,p2⟩:=wR h Jl;obtain ⟨z1,z2⟩:=mT Ul hz4 len;obtain ⟨us,u1,u2,u3⟩:=pw (R:=R) (w:=w) _ (ur p1) ((uu ps).trans p2) z1 z2 g1;have Vq:(parts.map fun (x:Nat × Operand)=>(x.1,a.eval x.2)).toList=parts.toList.map fun x=>(x.1,a.eval x.2):=by simp
     have xQ:((aa7 (len * esz)).map fun i=>zc.cells[i % zc.cells.size]!)=⟨(aao len zc.cells.toList).flatten⟩:=by
      apply aa6;rw [← qF];exact px zc.cells len
     have bM:(aaF t len (parts.map fun (x:Nat × Operand)=>(x.1,a.eval x.2))).run E.P w=.ok (.slice (some ⟨w.heap.size,0,none⟩) len len) (w.alloc (.cells ⟨us⟩ elem)):=by
      have Jk:¬ len * esz > 2 ^ 24:=by omega
      by_cases h0:len * esz=0
      ·have uv:len=0:=by
        rcases Nat.mul_eq_zero.1 h0 with h0|h0 <;> omega
       subst uv;have u1':abI (fun i=>some (i * esz,esz)) #[] (parts.toList.map fun x=>(x.1,a.eval x.2))=some ⟨us⟩:=by simpa using u1
       simp only [aaF,aad,run_underlying e2,aab,run_sizeOf w f1,f2];simp only [acU,gt_iff_lt,Nat.not_lt_zero,if_false,if_true,aad,aag,aab,Vq];have Du:∀ f:Nat→Value,Array.map f (aa7 0)=#[]:=fun f=>by simp
       simp only [Du,u1',newRow,aad,run_newObj,aab,aag];rfl
      ·simp only [aaF,aad,run_underlying e2,aab,run_sizeOf w f1,f2];rw [if_neg Jk,if_neg h0];simp only [aad,aag,aab,gK w f1 tX,Vq,xQ,u1,newRow,run_newObj];rfl
     exact ⟨esz,us,elem,by simp only [execOp,ho,aad,bM,aab,aag],u2,u3,i,ag,pt,_,hi,hk⟩
   ·cases hv
  ·cases hv
 ·cases hv
theorem wu (h:bt E R w β s a) (t:TypeId) (len:Nat) (parts:Array (Nat × Operand)) (ho:o.op=.buildSlice t len parts) {v:AV} (hv:cp E s t len parts.toList=some v) :
  cu E R w β s a o (s.put o.dst (.v v)):=by
 obtain ⟨es,esz,us,elem,rfl,bM,g2,hlen,u2,u3,_⟩:=iK h t len parts ho hv;have e:=Cb (R:=R) (w:=w) h.g.wf (.cells ⟨us⟩ elem);refine ⟨_,.slice (some ⟨w.heap.size,0,none⟩) len len,_,R.YT w.heap.size,β,bM,.inl rfl,(h.YT (.cells ⟨us⟩ elem)).put o.dst ?_,by rw [bc]; exact Lg h _⟩;refine Rel.list (mS g2 (dV.make (u2.mono e) u3 (fun j x hx=>?_) (fun j _=>.inr rfl))) hlen.symm (Nat.le_refl _) rfl;rw [jy (heap_alloc_new w _)];simpa using hx
theorem uw (h:bt E R w β s a) (t:TypeId) (len:Nat) (parts:Array (Nat × Operand)) (ho:o.op=.buildSlice t len parts) {cs:List AV} (hv:j8 E s t len parts.toList=some cs) {i:TI} (hi:E.ti t=some i) {el:TypeId} {esz eb:Nat} {ag:Bool} {z:Option AV} (hk:i.k=.sl el esz ag eb z) :
  cu E R w β s a o ((s.dU (.row cs el)).put o.dst (.v (.j7 s.G.length 0 esz len len))):=by
 obtain ⟨Vr,us,elem,bM,u2,u3,i',ag',by',z',um,iJ⟩:=wq h t len parts ho hv;rw [hi] at um;cases um;rw [hk] at iJ;cases iJ;have e:=gU (R:=R) (w:=w) h.g.wf (.cells ⟨us⟩ el) (.ck w.heap.size);have iH:gI (R.add (.ck w.heap.size)) (w.alloc (.cells ⟨us⟩ el)) (.row cs el) (.ck w.heap.size):=
  ⟨_,heap_alloc_new w _,u2.mono e,u3,fun o' hi=>by have:=h.g.wf _ _ hi; omega⟩
 exact ⟨_,_,_,R.add (.ck w.heap.size),β,bM,.inl rfl,(h.mr _ _ _ (by exact fun _ h=>h) iH).put o.dst (x:=.v (.j7 s.G.length 0 esz len len)) (Rel.j7 (gl h _) (Nat.le_refl _)),by rw [bc]; exact c9 h _ _ (by exact fun _ h=>h)⟩
theorem ux (h:bt E R w β s a) (t:TypeId) (len:Nat) (parts:Array (Nat × Operand)) (ho:o.op=.buildSlice t len parts) {k:LK} {esz:Nat} {es:List AV} (hv:cp E s t len parts.toList=some (.list k esz es)) {i:TI} (hi:E.ti t=some i) {el:TypeId} {bV eb:Nat} {ag:Bool} {z:Option AV} (hk:i.k=.sl el bV ag eb z) :
  cu E R w β s a o ((s.dU (.row (aq es) el)).put o.dst (.v (.j7 s.G.length 0 esz len len))):=by
 obtain ⟨es',Vr,us,elem,ZK,bM,g2,hlen,u2,u3,i',ag',by',z',um,iJ⟩:=iK h t len parts ho hv;cases ZK;rw [hi] at um;cases um;rw [hk] at iJ;cases iJ;have e:=gU (R:=R) (w:=w) h.g.wf (.cells ⟨us⟩ el) (.ck w.heap.size);have iH:gI (R.add (.ck w.heap.size)) (w.alloc (.cells ⟨us⟩ el)) (.row (aq es) el) (.ck w.heap.size):=
  ⟨_,heap_alloc_new w _,u2.mono e,u3,fun o' hi=>by have:=h.g.wf _ _ hi; omega⟩
 exact ⟨_,_,_,R.add (.ck w.heap.size),β,bM,.inl rfl,(h.mr _ _ _ (by exact fun _ h=>h) iH).put o.dst (x:=.v (.j7 s.G.length 0 esz len len)) (Rel.j7 (gl h _) (Nat.le_refl _)),by rw [bc]; exact c9 h _ _ (by exact fun _ h=>h)⟩
end ops
end Go.Am
