/- The abstract machine: values of a form. -/
import Derived.Test.YtldcljfjjoidhaaGreatDoorAmKA
import Derived.Laws.StructEq
import Derived.ChangeKeysEq
import Derived.IntWalk
set_option linter.all false
open Array renaming ext'→abq, range→abu
open Bool renaming and_eq_true→aab, true_and→aa6, false_eq_true→abJ, and_true→ab0
open Go.Instr renaming sureAddr→aaM, buildSlice→aaY, indexAt→aaZ, fill→abP
open Go.Op renaming stringOp→aa3, intCmp→abK, bytesLess→abR, intArith→abT, equalIn→abY
open Go.Result renaming andThen_ok→aaa
open Go.Sem renaming run_bind→aac, run_pure→aaC
open List renaming replicate→aaR, getElem?_eq_getElem→aaX, mem_of_mem_take→aba, length_append→abN, mem_append→abS, getElem?_eq_none→abV, map→abW, mem_of_mem_drop→abX, map_cons→ab1, replicate_succ→ab2
open Nat renaming le_of_ble_eq_true→aax, eq_of_beq_eq_true→aaB, beq_eq→aaH, beq→aa4, add_mul→aa5, beq_refl→aa9, add_assoc→abO, add_zero→abQ, mul_le_mul_right→abZ, zero_mul→ab4, succ_mul→ab5
open Ne renaming symm→abU
namespace Go.Am
open Go
theorem KI {a b:AV} (h:KB a b=true):a=b:=by
 unfold KB at h;split at h
 all_goals (first|(cases h; done) | skip)
 all_goals (try simp only [aab,beq_iff_eq,aaH] at h)
 all_goals (simp [*])
mutual
theorem jv:∀ {a b:AV},dD a b=true→a=b:=by
 intro a b h;unfold dD at h;split at h
 ·simp only [aab,aaH] at h; rw [h.1.1,fR h.1.2,fR h.2]
 ·rw [fR h]
 ·rw [fR h]
 ·rw [fR h]
 ·simp only [aab,aaH] at h; rw [h.1,fR h.2]
 ·simp only [aab,aaH] at h; rw [h.1,fR h.2]
 ·simp only [aab,aaH] at h; rw [h.1,fR h.2]
 ·simp only [aab,aaH] at h; rw [h.1.1,h.1.2,fR h.2]
 ·simp only [aab,aaH] at h; rw [h.1.1.1,h.1.1.2,h.1.2,fR h.2]
 ·exact KI h
theorem fR:∀ {l r:List AV},mC l r=true→l=r:=by
 intro l r h;unfold mC at h;split at h
 ·rfl
 ·rw [aab] at h; rw [jv h.1,fR h.2]
 ·cases h
end
def BV (a b:AV):Prop:=∀ (R:ak) (w:World) (c:Value),Rel R w a c→Rel R w b c
def cP:List AV→List AV→Prop
 |[],[]=>True
 |a :: l,b :: r=>BV a b∧cP l r
 |_,_=>False
theorem BV.refl (a:AV):BV a a:=fun _ _ _ h=>h
theorem cP.refl:∀ l:List AV,cP l l
 |[]=>trivial
 |a :: l=>⟨BV.refl a,cP.refl l⟩
theorem cP.length:∀ {l r:List AV},cP l r→l.length=r.length
 |[],[],_=>rfl
 |_ :: _,_ :: _,h=>by simp [cP.length h.2]
 |[],_ :: _,h=>h.elim
 |_ :: _,[],h=>h.elim
theorem cP.rel {R:ak} {w:World}:∀ {l r:List AV} {cs:List Value},cP l r→aK R w l cs→aK R w r cs
 |[],[],_,_,h=>h
 |_ :: _,_ :: _,_,k,.cons h t=>.cons (k.1 _ _ _ h) (cP.rel k.2 t)
 |[],_ :: _,_,h,_=>h.elim
 |_ :: _,[],_,h,_=>h.elim
theorem cP.KJ {R:ak} {w:World}:∀ {l r:List AV} {b o:Nat},cP l r→dR R w b o l→dR R w b o r
 |[],[],_,_,_,_=>.nil
 |_ :: _,_ :: _,_,_,k,.cons hc h1 hi h t=>.cons hc h1 hi (k.1 _ _ _ h) (cP.KJ k.2 t)
 |[],_ :: _,_,_,h,_=>h.elim
 |_ :: _,[],_,_,h,_=>h.elim
theorem cP.append:∀ {a b c d:List AV},cP a b→cP c d→cP (a++c) (b++d)
 |[],[],_,_,_,h=>h
 |_ :: _,_ :: _,_,_,k,h=>⟨k.1,cP.append k.2 h⟩
 |[],_ :: _,_,_,h,_=>h.elim
 |_ :: _,[],_,_,h,_=>h.elim
structure iY (v u:AV):Prop where
 gY:BV v u
 bk:u.aY=v.aY
 cells:v.aY=true→cP v.cells u.cells
 closed:v.closed=true→u.closed=true
theorem wD {u v a:AV} (h:(aM.two u v).fits a=true):(aM.two u v).enc ((aM.two u v).bA a)=a:=by
 change (dD a u || dD a v)=true at h;change (bif dD a v then v else u)=a;cases hs:dD a v with
 |true=>exact (jv hs).symm
 |false=>
  rw [hs,Bool.or_false] at h;exact (jv h).symm
theorem iY.refl (v:AV):iY v v:=⟨BV.refl v,rfl,fun _=>cP.refl _,fun h=>h⟩
theorem Fp {a b:IntKind} (h:UA a b=true):a=b:=of_decide_eq_true h
theorem sJ {α:Type} {f:AV→Bool} {d:AV→α} {g:α→AV} (Hx:∀ v,f v=true→iY v (g (d v))) {R:ak} {w:World} :
  ∀ {es:List AV} {b o sz:Nat},allFit f es=true→gl R w b o sz es→gl R w b o sz ((es.map d).map g)
 |[],b,o,sz,_,_=>.nil
 |e :: es,b,o,sz,h,hr=>by
  simp only [allFit,aab] at h;cases hr with
  |cons hl ht hk hc t=>
   have d':=Hx e h.1;have wc:=d'.cells ht;exact .cons (by rw [← wc.length,hl]) (by rw [d'.bk,ht]) (d'.closed hk) (wc.KJ hc) (sJ Hx h.2 t)
theorem IU {R:ak} {w:World} {b o sz bR:Nat} {es:List AV} (h:es=[]∨sz=bR) (hr:gl R w b o bR es):gl R w b o sz es:=by
 rcases h with rfl|rfl
 ·exact .nil
 ·exact hr
theorem IV {α:Type} {f:AV→Bool} {d:AV→α} {g:α→AV} (Hx:∀ v,f v=true→iY v (g (d v))) {k:LK} {sz bR:Nat} {es:List AV} (hs:es=[]∨sz=bR) (h:allFit f es=true) :
  BV (.list k bR es) (.list .lq sz ((es.map d).map g)):=fun R w c hr=>by
 cases hr with
 |kz=>exact .ja
 |ja=>exact .ja
 |nI=>exact .nI
 |mH _ _=>exact .ja
 |nJ _ _=>exact .ja
 |list hr hlen hc hk=>exact .list (sJ Hx h (IU hs hr)) (by simp [hlen]) hc trivial
theorem KK {α:Type} {f:AV→Bool} {d:AV→α} {g:α→AV} (Hx:∀ v,f v=true→iY v (g (d v))) {id sz:Nat} {es:List AV} (h:allFit f es=true) :
  BV (.list (.own id) sz es) (.list (.own id) sz ((es.map d).map g)):=fun R w c hr=>by
 cases hr with
 |mH h1 h2=>exact .mH h1 h2
 |list hr hlen hc hk=>exact .list (sJ Hx h hr) (by simp [hlen]) hc hk
theorem KL {α:Type} {f:AV→Bool} {d:AV→α} {g:α→AV} (Hx:∀ v,f v=true→iY v (g (d v))) {id j sz:Nat} {es:List AV} (h:allFit f es=true) :
  BV (.list (.bB id j) sz es) (.list (.bB id j) sz ((es.map d).map g)):=fun R w c hr=>by
 cases hr with
 |nJ h1 h2=>exact .nJ h1 h2
 |list hr hlen hc hk=>exact .list (sJ Hx h hr) (by simp [hlen]) hc hk
mutual
theorem aM.dc:∀ (p:aM) {v:AV},p.fits v=true→iY v (p.enc (p.bA v))
 |.int k,v,h=>by
  cases v with
  |int k' n=>
   have hk:UA k k'=true:=h;rw [Fp hk];exact iY.refl _
  |_=>cases h
 |.bool,v,h=>by
  cases v with
  |bool b=>exact iY.refl _
  |_=>cases h
 |.str,v,h=>by
  cases v with
  |str b=>exact iY.refl _
  |_=>cases h
 |.agg ps,v,h=>by
  cases v with
  |agg cs=>
   obtain ⟨h1,h2⟩:=ps.dc (show ps.fits cs=true from h);exact ⟨fun R w c hr=>by cases hr with | agg hr xq=>exact .agg (h1.rel hr) xq,rfl,fun _=>h1,fun hc=>by
    have AW:aB cs=true:=by simpa [AV.closed] using hc
    show AV.closed (.agg (ps.enc (ps.bA cs)))=true;simp only [AV.closed]; exact h2 AW⟩
  |_=>cases h
 |.bk ps,v,h=>by
  cases v with
  |bk cs=>
   obtain ⟨h1,h2⟩:=ps.dc (show ps.fits cs=true from h);exact ⟨fun R w c hr=>by cases hr with | bk hr=>exact .bk (h1.rel hr),rfl,fun hn=>by simp [AV.aY] at hn,fun hc=>by
    have AW:aB cs=true:=by simpa [AV.closed] using hc
    show AV.closed (.bk (ps.enc (ps.bA cs)))=true;simp only [AV.closed]; exact h2 AW⟩
  |_=>cases h
 |.list sz p,v,h=>by
  cases v with
  |list k bR es=>
   have hb:((aa4 sz bR || es.isEmpty)&&allFit p.fits es)=true:=h;simp only [aab,Bool.or_eq_true,aaH,List.isEmpty_iff] at hb;have hw:=IV (k:=k) (fun v=>p.dc) hb.1.symm hb.2;exact ⟨hw,rfl,fun _=>⟨hw,trivial⟩,fun _=>rfl⟩
  |_=>cases h
 |.own id sz p,v,h=>by
  cases v with
  |list k bR es=>
   cases k with
   |own jL=>
    have hb:((aa4 id jL&&aa4 sz bR)&&allFit p.fits es)=true:=h;simp only [aab,aaH] at hb;obtain ⟨⟨rfl,rfl⟩,hf⟩:=hb;have hw:=KK (id:=id) (sz:=sz) (fun v=>p.dc) hf;exact ⟨hw,rfl,fun _=>⟨hw,trivial⟩,fun hc=>by simp [AV.closed,LK.closed] at hc⟩
   |_=>cases h
  |_=>cases h
 |.bB id sz p,v,h=>by
  cases v with
  |list k bR es=>
   cases k with
   |bB jL j=>
    have hb:((aa4 id jL&&aa4 sz bR)&&allFit p.fits es)=true:=h;simp only [aab,aaH] at hb;obtain ⟨⟨rfl,rfl⟩,hf⟩:=hb;have hw:=KL (id:=id) (j:=j) (sz:=sz) (fun v=>p.dc) hf;exact ⟨hw,rfl,fun _=>⟨hw,trivial⟩,fun hc=>by simp [AV.closed,LK.closed] at hc⟩
   |_=>cases h
  |_=>cases h
 |.bN u,v,h=>by
  have:=jv (show dD v u=true from h);subst this;exact iY.refl _
 |.two u v,a,h=>by
  have hv:(aM.two u v).enc ((aM.two u v).bA a)=a:=wD h;rw [hv];exact iY.refl _
theorem aJ.dc:∀ (ps:aJ) {l:List AV},ps.fits l=true→cP l (ps.enc (ps.bA l))∧(aB l=true→aB (ps.enc (ps.bA l))=true)
 |.nil,l,h=>by
  cases l with
  |nil=>exact ⟨trivial,fun h=>h⟩
  |cons _ _=>cases h
 |.cons p .nil,l,h=>by
  match l,h with
  |[],h=>cases h
  |a :: l,h=>
   have h':(p.fits a&&l.isEmpty)=true:=h;simp only [aab,List.isEmpty_iff] at h';obtain ⟨h1,rfl⟩:=h';have d:=p.dc h1;exact ⟨⟨d.gY,trivial⟩,fun hc=>by
    simp only [aB,ab0] at hc;show aB [p.enc (p.bA a)]=true;simp only [aB,ab0];exact d.closed hc⟩
 |.cons p (.cons q ps),l,h=>by
  cases l with
  |nil=>cases h
  |cons a l=>
   have h':(p.fits a&&(aJ.cons q ps).fits l)=true:=h;rw [aab] at h';have d:=p.dc h'.1;obtain ⟨k1,k2⟩:=(aJ.cons q ps).dc h'.2;exact ⟨⟨d.gY,k1⟩,fun hc=>by
    simp only [aB,aab] at hc;show aB (p.enc (p.bA a) :: (aJ.cons q ps).enc ((aJ.cons q ps).bA l))=true;simp only [aB,aab];exact ⟨d.closed hc.1,k2 hc.2⟩⟩
end
theorem aM.rH (p:aM) {v:AV} {x:p.T} (h:p.dec v=some x):iY v (p.enc x):=by
 unfold aM.dec at h;cases hf:p.fits v with
 |true=>rw [hf] at h; cases h; exact p.dc hf
 |false=>rw [hf] at h; cases h
theorem aJ.rH (ps:aJ) {l:List AV} {x:ps.T} (h:ps.dec l=some x):cP l (ps.enc x)∧(aB l=true→aB (ps.enc x)=true):=by
 unfold aJ.dec at h;cases hf:ps.fits l with
 |true=>rw [hf] at h; cases h; exact ps.dc hf
 |false=>rw [hf] at h; cases h
mutual
def aM.plain:aM→Bool
 |.agg ps=>ps.plain
 |.bk ps=>ps.plain
 |.list _ p=>p.plain
 |.own _ _ p=>p.plain
 |.bB _ _ p=>p.plain
 |.bN v=>dD v v
 |.two u v=>dD u u&&dD v v&&!dD u v
 |_=>true
def aJ.plain:aJ→Bool
 |.nil=>true
 |.cons p ps=>p.plain&&ps.plain
end
theorem nN {α:Type} {f:AV→Bool} {g:α→AV} (h:∀ x,f (g x)=true):∀ xs:List α,allFit f (xs.map g)=true
 |[]=>rfl
 |x :: xs=>by simp only [ab1,allFit,h x,nN h xs,Bool.and_self]
theorem wE {α:Type} {d:AV→α} {g:α→AV} (h:∀ x,d (g x)=x):∀ xs:List α,(xs.map g).map d=xs
 |[]=>rfl
 |x :: xs=>by simp only [ab1,h x,wE h xs]
mutual
theorem aM.bU:∀ (p:aM) (x:p.T),p.plain=true→p.fits (p.enc x)=true∧p.bA (p.enc x)=x
 |.int k,x,_=>⟨decide_eq_true rfl,rfl⟩
 |.bool,x,_=>⟨rfl,rfl⟩
 |.str,x,_=>⟨rfl,rfl⟩
 |.agg ps,x,h=>ps.bU x h
 |.bk ps,x,h=>ps.bU x h
 |.list sz p,x,h=>by
  refine ⟨?_,wE (fun y=>(p.bU y h).2) x⟩;change ((aa4 sz sz || (abW p.enc x).isEmpty)&&allFit p.fits (abW p.enc x))=true;rw [aa9,Bool.true_or,aa6];exact nN (fun y=>(p.bU y h).1) x
 |.own id sz p,x,h=>by
  refine ⟨?_,wE (fun y=>(p.bU y h).2) x⟩;change ((aa4 id id&&aa4 sz sz)&&allFit p.fits (abW p.enc x))=true;rw [aa9,aa9,aa6,aa6];exact nN (fun y=>(p.bU y h).1) x
 |.bB id sz p,(x:Nat × List p.T),h=>by
  refine ⟨?_,?_⟩
  ·change ((aa4 id id&&aa4 sz sz)&&allFit p.fits (abW p.enc x.2))=true;rw [aa9,aa9,aa6,aa6];exact nN (fun y=>(p.bU y h).1) x.2
  ·change (x.1,(abW p.enc x.2).map p.bA)=x;rw [wE (fun y=>(p.bU y h).2) x.2]
 |.bN v,x,h=>⟨h,rfl⟩
 |.two u v,(x:Bool),h=>by
  change (dD u u&&dD v v&&!dD u v)=true at h;simp only [aab,Bool.not_eq_true'] at h;obtain ⟨⟨h1,h2⟩,h3⟩:=h;cases x
  ·exact ⟨by change (dD u u || dD u v)=true; rw [h1]; rfl,h3⟩
  ·exact ⟨by change (dD v u || dD v v)=true; rw [h2,Bool.or_true],h2⟩
theorem aJ.bU:∀ (ps:aJ) (x:ps.T),ps.plain=true→ps.fits (ps.enc x)=true∧ps.bA (ps.enc x)=x
 |.nil,x,_=>⟨rfl,rfl⟩
 |.cons p .nil,x,h=>by
  have h':(p.plain&&true)=true:=h;rw [ab0] at h';have:=p.bU x h';exact ⟨by change (p.fits (p.enc x)&&true)=true; rw [this.1]; rfl,this.2⟩
 |.cons p (.cons q ps),x,h=>by
  have h':(p.plain&&(aJ.cons q ps).plain)=true:=h;rw [aab] at h';have h1:=p.bU x.1 h'.1;have h2:=(aJ.cons q ps).bU x.2 h'.2;refine ⟨?_,?_⟩
  ·change (p.fits (p.enc x.1)&&(aJ.cons q ps).fits ((aJ.cons q ps).enc x.2))=true;rw [h1.1,h2.1];rfl
  ·change (p.bA (p.enc x.1),(aJ.cons q ps).bA ((aJ.cons q ps).enc x.2))=x;rw [h1.2,h2.2];rfl
end
end Go.Am
namespace Go.Am
open Go
theorem cu (E:Env) {t:TypeId} {i:TI} (h:E.ti t=some i) :
  ∃ hJ u,E.P.info? t=some hJ∧E.P.underlying t=some u∧hJ.size=i.size∧jM u=i.agg∧qO E.P u=some i.k∧gf hJ=i.zero:=by
 have h1:=E.IM t i h;unfold IL at h1;split at h1
 ·rename_i hJ u h2 h3;split at h1
  ·rename_i k hk;cases h1;exact ⟨hJ,u,h2,h3,rfl,rfl,hk,rfl⟩
  ·cases h1
 ·cases h1
section runs
variable {P:Program} (w:World)
theorem AX {t:TypeId} {u:TypeDesc} (h:P.underlying t=some u):(isAgg t).run P w=.ok (jM u) w:=by
 unfold isAgg;simp only [aac,run_underlying h,aaa];cases u <;> rfl
theorem run_sizeOf {t:TypeId} {i:TypeInfo} (h:P.info? t=some i):(sizeOf t).run P w=.ok i.size w:=by
 simp [sizeOf,typeInfo,h]
theorem gM {t:TypeId} {i:TypeInfo} {z:Value} (h:P.info? t=some i) (hz:i.zero=some z):(zeroValue t).run P w=.ok z w:=by
 simp [zeroValue,typeInfo,h,hz]
theorem xr (t:TypeId) (v:Value):(newVar t v).run P w=.ok ⟨w.heap.size,0,none⟩ (w.alloc (.cells v.cells t)):=by
 simp only [newVar,newRow,aac,run_newObj,aaa,aaC];rfl
end runs
theorem xu {R:ak} {w:World} {ag:Bool} {l:List AV} {v:AV} {vs:List Value} (hm:tX ag l=some v) (h:aK R w l vs) (h1:∀ x∈vs,x.oneCell'=true) :
  (ag=true→Rel R w v (.agg ⟨vs⟩))∧(ag=false→∃ c,vs=[c]∧Rel R w v c):=by
 unfold tX at hm;cases ag with
 |true=>
  simp at hm;subst hm;exact ⟨fun _=>.agg h h1,fun e=>by cases e⟩
 |false=>
  refine ⟨(fun e=>by cases e),fun _=>?_⟩;simp only [abJ,if_false] at hm;split at hm
  ·cases hm;cases h with
   |cons h t=>
    cases t;exact ⟨_,rfl,h⟩
  ·cases hm
theorem oX {E:Env} {R:ak} {w:World} {t:TypeId} {i:TI} (hi:E.ti t=some i) {b off:Nat} {l:List AV} {vs:List Value} {v:AV}
  (hl:l.length=i.size) (hr:aK R w l vs) (h1:∀ x∈vs,x.oneCell'=true) (hc:∀ j x,vs[j]?=some x→w.cell? ⟨b,off+j,none⟩=some x) (hm:tX i.agg l=some v) :
  ∃ c,(loadVar t ⟨b,off,none⟩).run E.P w=.ok c w∧Rel R w v c:=by
 obtain ⟨hJ,u,e1,e2,e3,e4,_⟩:=cu E hi;obtain ⟨m1,m2⟩:=xu hm hr h1;unfold loadVar;simp only [aac,AX w e2,aaa,e4];cases ha:i.agg with
 |true=>
  refine ⟨.agg ⟨vs⟩,?_,m1 ha⟩;have hlen:hJ.size=vs.length:=by rw [e3,← hl,hr.length]
  have:=run_loadCells_list (P:=E.P) w ⟨b,off,none⟩ vs (fun j x hx=>by rw [cH]; exact hc j x hx);simp [run_sizeOf w e1,hlen,this]
 |false=>
  obtain ⟨c,rfl,ej⟩:=m2 ha;refine ⟨c,?_,ej⟩;have:=hc 0 c (by simp);simp only [abQ] at this;simp [run_load,this]
theorem jw {w:World} {b:Nat} {vs:List Value} {el:TypeId} {fr:Nat × Nat} (h:w.heap[b]?=some (.cells ⟨vs⟩ el fr)) (j:Nat):w.cell? ⟨b,j,none⟩=vs[j]?:=by
 simp [World.cell?,h]
theorem vg {E:Env} {R:ak} {w:World} {β:Nat→Nat} {s:St} {a:Act} (h:bl E R w β s a) {p:SV} {c:Value} (hp:qQ R w β p c) {cs:List AV} {off:Nat} (hc:nD s p=some (cs,off)) :
  ∃ b o vs,c=.pointer (some ⟨b,o+off,none⟩)∧aK R w cs vs∧(∀ x∈vs,x.oneCell'=true)∧∀ j x,vs[j]?=some x→w.cell? ⟨b,o+j,none⟩=some x:=by
 unfold nD at hc;split at hc
 ·rename_i k fQ;split at hc
  ·rename_i cs' hk;cases hc;obtain ⟨⟨vs,el,h1,h2,h3⟩,_⟩:=h.b.box k cs hk;exact ⟨β k,0,vs,by rw [hp]; simp,h2,h3,fun j x hx=>by rw [jw h1]; simpa using hx⟩
  ·cases hc
 ·rename_i id fQ;split at hc
  ·rename_i cs' hk;cases hc;cases hp with
   | @ptr _ _ b hb=>
    obtain ⟨vs,h1,h2,h3,_⟩:=h.g.obj id _ _ hk hb;exact ⟨b,0,vs,by simp,h2,h3,fun j x hx=>by rw [jw h1]; simpa using hx⟩
  ·cases hc
 ·rename_i cs';cases hc;cases hp with
  |ep hr=>
   obtain ⟨vs,h1,h2,h3,_⟩:=hr.get;exact ⟨_,_,vs,rfl,h1,h2,h3⟩
 ·cases hc
theorem qk {R:ak} {w:World} {off n:Nat} {cs l:List AV} {vs:List Value} (hs:Ht off n cs=some l) (h:aK R w cs vs) (h1:∀ x∈vs,x.oneCell'=true) :
  l.length=n∧aK R w l ((vs.drop off).take n)∧(∀ x∈(vs.drop off).take n,x.oneCell'=true)∧∀ j x,((vs.drop off).take n)[j]?=some x→vs[off+j]?=some x:=by
 obtain ⟨e1,e2⟩:=UG hs;subst e1;refine ⟨e2,(h.drop off).take n,fun x hx=>h1 x (abX (aba hx)),fun j x hx=>?_⟩;rw [List.getElem?_take] at hx;split at hx
 ·rwa [List.getElem?_drop] at hx
 ·cases hx
def cm (E:Env) (R:ak) (w:World) (β:Nat→Nat) (s:St) (a:Act) (o:Oper) (s':St):Prop:=
 ∃ nx x w' R' β',(execOp a.eval o).run E.P w=.ok nx w'∧(nx=.value x∨(nx=.skip∧x=undef))∧bl E R' w' β' s' (a.put o.dst x)∧Step R w β s.boxes R' w' β' s'.boxes
section ops
variable {E:Env} {R:ak} {w:World} {β:Nat→Nat} {s:St} {a:Act} {o:Oper}
@[simp] theorem a6 (s:St) (d:Option Tmp) (x:SV):(s.put d x).boxes=s.boxes:=by
 cases d with
 |none=>rfl
 |some d=>simp only [St.put]; split <;> rfl
theorem ao (h:bl E R w β s a) {c:Value} {sv:SV} (hx:(execOp a.eval o).run E.P w=.ok (.value c) w) (hr:qQ R w β sv c):cm E R w β s a o (s.put o.dst sv):=
 ⟨.value c,c,w,R,β,hx,.inl rfl,h.put o.dst hr,by rw [a6]; exact Step.refl R w β s.boxes⟩
theorem Fq {t:Bool} {x y:AV} {c d:Value} (hx:Rel R w x c) (hy:Rel R w y d):Rel R w (BR t x y) (if t=true then c else d):=by
 unfold BR;split
 ·cases hx; cases hy; cases t <;> exact .bool _
 ·cases hx; cases hy;split
  ·rename_i e; subst e; cases t <;> exact .int _ _
  ·cases t <;> exact .int _ _
 ·cases t
  ·exact hy
  ·exact hx
theorem kl (h:bl E R w β s a) (x:Operand) (ho:o.op=.move x∨o.op=.assign x) {y:SV} (hy:bJ E s.ae x=y):cm E R w β s a o (s.put o.dst y):=by
 subst hy;refine ao h (c:=a.eval x) ?_ (aT h x);rcases ho with ho|ho <;> simp [execOp,ho]
theorem IW (h:bl E R w β s a) (c x y:Operand) (ho:o.op=.pick c x y) {t:Bool} {p q:AV} (h1:bJ E s.ae c=.v (.bool t)) (h2:bJ E s.ae x=.v p) (h3:bJ E s.ae y=.v q) :
  cm E R w β s a o (s.put o.dst (.v (BR t p q))):=by
 have r1:=aT h c;have r2:=aT h x;have r3:=aT h y;rw [h1] at r1; rw [h2] at r2; rw [h3] at r3;refine ao h (c:=if t=true then a.eval x else a.eval y) ?_ (Fq r2 r3);have r1':Rel R w (.bool t) (a.eval c):=r1;generalize E8:a.eval c=cc at r1';cases r1';simp [execOp,ho,asBool,E8]
theorem IX (h:bl E R w β s a) (t:TypeId) (x:Operand) (ho:o.op=.load t x) {v:AV} (hl:sD E s t (bJ E s.ae x)=some v) :
  cm E R w β s a o (s.put o.dst (.v v)):=by
 unfold sD at hl;split at hl
 ·rename_i i cs off hi hc;split at hl
  ·rename_i l hs;obtain ⟨b,o',vs,e,h1,h2,h3⟩:=vg h (aT h x) hc;obtain ⟨k1,k2,k3,k4⟩:=qk hs h1 h2;obtain ⟨c,hc,ej⟩:=oX (E:=E) hi (b:=b) (off:=o'+off) k1 k2 k3 (fun j y hy=>by rw [abO]; exact h3 _ _ (k4 j y hy)) hl;refine ao h (c:=c) ?_ ej;simp [execOp,ho,Instr.loadAt,e,aaM,hc]
  ·cases hl
 ·cases hl
theorem jb {b:Nat} (hI:∀ o,¬ R.I b o) (cs:Array Value):Ext R w R (w.setRow b cs):=
 ⟨fun _ _ h=>h,fun b' o h=>cb (setRow_other w b b' cs (fun e=>hI o (e ▸ h))) o,fun _ ro h=>⟨ro,h,cF.refl ro⟩,fun b' r hb=>⟨r,by
  by_cases e:b'=b
  ·subst e;have bZ:b' < w.heap.size:=bi hb;have hv:w.heap[b']=.loop r:=(Array.getElem?_eq_some_iff.1 hb).2;unfold World.setRow;rw [Array.getElem?_eq_getElem (by simpa using bZ),Array.getElem_modify];simp [hv]
  ·exact (setRow_other w b b' cs e).trans hb,rfl,rfl,rfl,rfl,rfl⟩⟩
theorem aK.bf {cs ys:List AV} {vs us:List Value} {off:Nat} (h:aK R w cs vs) (k:aK R w ys us) (hl:off+ys.length≤cs.length) :
  aK R w (bf cs off ys) (vs.take off++us++vs.drop (off+us.length)):=by
 rw [eO cs off ys hl,← k.length];exact ((h.take off).append k).append (h.drop _)
theorem jc {vs us:List Value} {off n:Nat} (h:∀ x∈vs,x.oneCell'=true) (k:∀ x∈us,x.oneCell'=true):∀ x∈vs.take off++us++vs.drop n,x.oneCell'=true:=by
 intro x hx;simp only [abS] at hx;rcases hx with (hx|hx)|hx
 ·exact h x (aba hx)
 ·exact k x hx
 ·exact h x (abX hx)
theorem j4 {t:TypeId} {i:TI} (hi:E.ti t=some i) {b off:Nat} {vs:List Value} {el:TypeId} {c:Value} (hb:w.heap[b]?=some (.cells ⟨vs⟩ el (0,0)))
  (hs:c.cells.toList.length=i.size) (hl:off+c.cells.toList.length≤vs.length) (h1:∀ v∈c.cells.toList,v.oneCell'=true) :
  (storeVar t ⟨b,off,none⟩ c).run E.P w=.ok () (w.setRow b ⟨vs.take off++c.cells.toList++vs.drop (off+c.cells.toList.length)⟩):=by
 obtain ⟨hJ,u,e1,e2,e3,_⟩:=cu E hi;have lu:=run_storeCells_at (P:=E.P) b off el c.cells.toList 0 ⟨vs⟩ w hb (by simpa using hl) h1;have cQ:c.cells.size=hJ.size:=by rw [e3,← hs]; simp
 simp only [abQ] at lu;unfold storeVar;simp only [aac,run_sizeOf w e1,aaa,Sem.run_ite,cQ,ne_eq,not_true_eq_false,if_false];simpa using lu
theorem bl.Fs (h:bl E R w β s a) {id b k:Nat} {cs:List AV} (hb:nth R.obj id=some (.ca b)) (hk:dy s.boxes k=some cs):β k≠b:=by
 intro e;exact (h.b.box k cs hk).2.2 ⟨id,_,hb,by rw [e]; rfl⟩
theorem Ft (h:bl E R w β s a) (t:TypeId) (p x:Operand) (ho:o.op=.store t p x) (hd:o.dst=none) {s':St} (hs:jN E s t (bJ E s.ae p) (bJ E s.ae x)=some s') :
  cm E R w β s a o s':=by
 unfold jN at hs;have rp:=aT h p;have rx:=aT h x;split at hs
 ·rename_i i v hi hx;rw [hx] at rx;split at hs
  ·rename_i fI;simp only [aab] at fI;obtain ⟨OR,hlen⟩:=fI;have hlen:=aaB hlen;obtain ⟨c1,c2⟩:=Rel.cells rx OR;have C1:v.cells.length=(a.eval x).cells.toList.length:=c1.length;split at hs
   ·-- a local box
    rename_i k off YC;rw [YC] at rp;split at hs
    ·rename_i cs hk;split at hs
     ·rename_i hle;cases hs;have hle:=aax hle;obtain ⟨⟨vs,el,b1,b2,b3⟩,b4,b5⟩:=h.b.box k cs hk;have bE:=j4 (E:=E) (w:=w) hi (off:=off) (c:=a.eval x) b1 (by rw [← C1]; exact hlen) (by rw [← C1,← b2.length]; exact hle) c2;have hex:=jb (R:=R) (w:=w) b4 ⟨vs.take off++(a.eval x).cells.toList++vs.drop (off+(a.eval x).cells.toList.length)⟩;refine ⟨.skip,undef,w.setRow (β k) ⟨vs.take off++(a.eval x).cells.toList++vs.drop (off+(a.eval x).cells.toList.length)⟩,R,β,?_,.inr ⟨rfl,rfl⟩,?_,?_⟩
      ·simp [execOp,ho,Instr.storeAt,show a.eval p=.pointer (some ⟨β k,off,none⟩) from rp,aaM,bE]
      ·rw [hd];refine ⟨?_,?_,h.t.mono hex,h.n,h.d⟩
       ·exact h.g.aW hex rfl (fun b hb=>setRow_other w _ b _ (fun e=>b5 (e ▸ hb))) (fun _ _ _ hi=>hi) (fun b o hi=>by have:=h.g.wf b o hi; simp; omega)
       ·refine ⟨fun k' cs' iG=>?_,fun k1 k2 x1 x2 g1 g2=>?_⟩
        ·rcases eN iG with ⟨rfl,e⟩|⟨cQ,YD⟩
         ·cases e;exact ⟨⟨_,el,setRow_heap w _ _ _ el (0,0) b1,(b2.bf c1 hle).mono hex,jc b3 c2⟩,b4,b5⟩
         ·obtain ⟨⟨vs',el',d1,d2,d3⟩,d4,d5⟩:=h.b.box k' cs' YD;refine ⟨⟨vs',el',?_,d2.mono hex,d3⟩,d4,d5⟩;rw [setRow_other]
          ·exact d1
          ·exact fun e=>cQ (h.b.inj k' k cs' cs YD hk e).symm
        ·have q1:∃ y,dy s.boxes k1=some y:=by
          rcases eN g1 with ⟨rfl,_⟩|⟨_,g⟩
          ·exact ⟨_,hk⟩
          ·exact ⟨_,g⟩
         have q2:∃ y,dy s.boxes k2=some y:=by
          rcases eN g2 with ⟨rfl,_⟩|⟨_,g⟩
          ·exact ⟨_,hk⟩
          ·exact ⟨_,g⟩
         obtain ⟨y1,q1⟩:=q1;obtain ⟨y2,q2⟩:=q2;exact h.b.inj k1 k2 y1 y2 q1 q2
      ·have BW:Own R β s.boxes (β k):=.inr ⟨k,cs,hk,rfl⟩;refine ⟨hex,rfl,rfl,rfl,by simp,fun b _ hn=>setRow_other w _ b _ (fun e=>hn (e ▸ BW)),fun b _ hb=>?_,fun b o hi _ _=>hi⟩;rcases hb with hb|⟨k',cs',iG,e⟩
       ·exact .inl hb
       ·rcases eN iG with ⟨rfl,_⟩|⟨_,g⟩
        ·exact .inr ⟨k,cs,hk,e⟩
        ·exact .inr ⟨k',cs',g,e⟩
     ·cases hs
    ·cases hs
   ·-- an object
    rename_i id off YC;rw [YC] at rp;split at hs
    ·rename_i cs hk;split at hs
     ·rename_i hle;cases hs;have hle:=aax hle;have YE:Rel R w (.ptr id off) (a.eval p):=rp;generalize YF:a.eval p=pv at YE;cases YE with
      | @ptr _ _ b hb=>
      obtain ⟨vs,b1,b2,b3,b4⟩:=h.g.obj id _ _ hk hb;have bE:=j4 (E:=E) (w:=w) hi (off:=off) (c:=a.eval x) b1 (by rw [← C1]; exact hlen) (by rw [← C1,← b2.length]; exact hle) c2;have hex:=jb (R:=R) (w:=w) b4 ⟨vs.take off++(a.eval x).cells.toList++vs.drop (off+(a.eval x).cells.toList.length)⟩;refine ⟨.skip,undef,w.setRow b ⟨vs.take off++(a.eval x).cells.toList++vs.drop (off+(a.eval x).cells.toList.length)⟩,R,β,?_,.inr ⟨rfl,rfl⟩,?_,?_⟩
      ·simp [execOp,ho,Instr.storeAt,YF,aaM,bE]
      ·rw [hd];refine ⟨⟨?_,fun jL go ro hg hr=>?_,h.g.inj,fun b' o' uf=>by have:=h.g.wf b' o' uf; simp; omega,fun g cs' hg=>(h.g.ck g cs' hg).mono hex,by first | exact h.g.lo | exact Nat.le_succ_of_le h.g.lo⟩,?_,h.t.mono hex,h.n,h.d⟩
       ·simp [St.cD,h.g.len]
       ·rcases dp hg with ⟨rfl,rfl,_⟩|⟨cQ,rI⟩
        ·rw [hb] at hr;cases hr;exact ⟨_,setRow_heap w _ _ _ _ (0,0) b1,(b2.bf c1 hle).mono hex,jc b3 c2,b4⟩
        ·refine (h.g.obj jL go ro rI hr).mono hex (fun b' gL=>setRow_other w _ b' _ (fun e=>cQ ?_)) (fun _ _ _ hi=>hi);subst e;exact h.g.inj id jL _ _ b' hb hr rfl gL
       ·exact h.b.aW hex (fun k cs' iG=>setRow_other w _ _ _ (h.Fs hb iG)) (fun _ _ _ _ hi=>hi) (fun _ _ _ hl=>hl)
      ·have BW:Own R β s.boxes b:=.inl ⟨id,_,hb,rfl⟩;exact ⟨hex,rfl,rfl,rfl,by simp,fun b' _ hn=>setRow_other w _ b' _ (fun e=>hn (e ▸ BW)),fun _ _ hb=>hb,fun b o hi _ _=>hi⟩
     ·cases hs
    ·cases hs
   ·cases hs
  ·cases hs
 ·cases hs
end ops
end Go.Am
namespace Go.Am
open Go
section ops
variable {E:Env} {R:ak} {w:World} {β:Nat→Nat} {s:St} {a:Act} {o:Oper}
def ak.add (R:ak) (ro:RO):ak:=⟨R.I,R.obj++[ro]⟩
theorem gS (wf:∀ b o,R.I b o→b < w.heap.size) (x:Obj) (ro:RO):Ext R w (R.add ro) (w.alloc x):=
 ⟨fun _ _ h=>h,fun b o h=>cb (heap_alloc_old w x b (wf b o h)) o,fun _ r h=>⟨r,dq h,cF.refl r⟩,.old fun b hb=>heap_alloc_old w x b hb⟩
theorem mJ {ro:RO} {b:Nat} (h:Live (R.add ro) b):Live R b∨ro.has b:=by
 obtain ⟨id,r,h1,h2⟩:=h;rcases ar h1 with h1|⟨_,rfl⟩
 ·exact .inl ⟨id,r,h1,h2⟩
 ·exact .inr h2
theorem bl.mg (h:bl E R w β s a) (x:Obj) (go:GO) (ro:RO) (b6:∀ b,ro.has b→b=w.heap.size) (iE:gK (R.add ro) (w.alloc x) go ro):bl E (R.add ro) (w.alloc x) β (s.dQ go) a where
 g:=by
  have e:=gS (R:=R) (w:=w) h.g.wf x ro;refine ⟨by simp [St.dQ,ak.add,h.g.len],fun id g r h1 h2=>?_,fun i j ri rj b h1 h2 b1 b2=>?_,fun b o hi=>?_,fun g cs hg=>(h.g.ck g cs hg).mono e,by first | exact h.g.lo | exact Nat.le_succ_of_le h.g.lo⟩
  ·rcases ar h2 with h2|⟨h3,rfl⟩
   ·have bZ:=b7 h2;rw [h.g.len] at bZ;rcases ar h1 with h1|⟨h4,_⟩
    ·exact (h.g.obj id g r h1 h2).mono e (fun b hb=>heap_alloc_old w x b (h.g.b9 ⟨id,r,h2,hb⟩)) (fun _ _ _ hi=>hi)
    ·omega
   ·rcases ar h1 with h1|⟨h4,rfl⟩
    ·have:=b7 h1;rw [h3,h.g.len] at this;omega
    ·exact iE
  ·rcases ar h1 with g1|⟨h3,e1⟩
   ·rcases ar h2 with g2|⟨h4,e2⟩
    ·exact h.g.inj i j ri rj b g1 g2 b1 b2
    ·have:=h.g.b9 ⟨i,ri,g1,b1⟩;rw [e2] at b2;have:=b6 b b2;omega
   ·rcases ar h2 with g2|⟨h4,e2⟩
    ·have:=h.g.b9 ⟨j,rj,g2,b2⟩;rw [e1] at b1;have:=b6 b b1;omega
    ·omega
  ·have:=h.g.wf b o hi;simp;omega
 b:=h.b.aW (gS h.g.wf x ro) (fun k cs hk=>heap_alloc_old w x _ (h.eh (.inr ⟨k,cs,hk,rfl⟩))) (fun _ _ _ _ hi=>hi) (fun k cs hk hl=>by
  rcases mJ hl with hl|hl
  ·exact hl
  ·have:=h.eh (.inr ⟨k,cs,hk,rfl⟩);have hl:=b6 _ hl;omega)
 t:=h.t.mono (gS h.g.wf x ro)
 n:=h.n
 d:=h.d.mono (gS h.g.wf x ro)
theorem cZ (h:bl E R w β s a) (x:Obj) (ro:RO) (b6:∀ b,ro.has b→b=w.heap.size):Step R w β s.boxes (R.add ro) (w.alloc x) β s.boxes:=
 ⟨gS h.g.wf x ro,rfl,rfl,rfl,by simp,fun b hb _=>heap_alloc_old w x b hb,fun b hb ho=>by
  rcases ho with ho|ho
  ·rcases mJ ho with ho|ho
   ·exact .inl ho
   ·have ho:=b6 _ ho;omega
  ·exact .inr ho,fun _ _ hi _ _=>hi⟩
theorem gq (h:bl E R w β s a) (ro:RO):nth (R.add ro).obj s.G.length=some ro:=by
 rw [← h.g.len];exact eM _ _
theorem Db {f:FuncId} (h:bl E R w β s a) {v:AV} {c:Value} {t:TypeId} (hv:Rel R w v c) (hn:v.aY=true)
  (hx:(execOp a.eval o).run E.P w=.ok (.value (.pointer (some ⟨w.heap.size,0,none⟩))) (w.alloc (.cells c.cells t))) {s':St} (ha:fb E f s o.dst t v.cells=some (true,s')) :
  cm E R w β s a o s':=by
 obtain ⟨c1,c2⟩:=Rel.cells hv hn;unfold fb at ha;split at ha
 ·cases ha
 ·rename_i d hd;split at ha
  ·-- an object
   cases ha;have iE:gK (R.add (.ca w.heap.size)) (w.alloc (.cells c.cells t)) (.row v.cells t) (.ca w.heap.size):=
    ⟨c.cells.toList,heap_alloc_new w _,c1.mono (gS h.g.wf _ _),c2,fun o' hi=>by have:=h.g.wf _ _ hi; omega⟩
   have cR:=h.mg (.cells c.cells t) (.row v.cells t) (.ca w.heap.size) (by exact fun _ h=>h) iE;refine ⟨_,.pointer (some ⟨w.heap.size,0,none⟩),_,R.add (.ca w.heap.size),β,hx,.inl rfl,?_,?_⟩
   ·rw [hd];exact cR.put (some d) (x:=.v (.ptr s.G.length 0)) (Rel.ptr (gq h _))
   ·rw [a6];exact cZ h _ _ (by exact fun _ h=>h)
  ·split at ha
   ·rename_i hbx;injection ha with ha;injection ha with _ UH;subst UH;have e:=ug (R:=R) (w:=w) h.g.wf (.cells c.cells t)
    let β':Nat→Nat:=fun k=>if k=d then w.heap.size else β k
    have Hy:β' d=w.heap.size:=by simp [β']
    have cQ:∀ k,k≠d→β' k=β k:=fun k hk=>by simp [β',hk]
    have hdn:d < a.tmps.size:=by rw [h.n]; exact aax hbx
    have Fu:((s.kill d).vV d v.cells).put (some d) (.lp d 0)=⟨.put d (.lp d 0) :: .kill d :: s.ae,(d,v.cells) :: s.boxes,s.G,s.marks,s.ro,s.n⟩:=by
     simp only [St.put,St.vV,St.kill,hbx]
    refine ⟨_,.pointer (some ⟨w.heap.size,0,none⟩),_,R,β',hx,.inl rfl,?_,?_⟩
    ·rw [hd,Fu];refine ⟨?_,⟨fun k cs hk=>?_,fun k k' cs cs' hk iG he=>?_⟩,?_,by simp [Act.put,h.n],h.d⟩
     ·exact h.g.aW e rfl (fun b hb=>heap_alloc_old w _ b (h.g.b9 hb)) (fun _ _ _ hi=>hi) (fun b o hi=>by have:=h.g.wf b o hi; simp; omega)
     ·rcases eN hk with ⟨rfl,he⟩|⟨OS,hk⟩
      ·cases he;rw [Hy];exact ⟨⟨c.cells.toList,t,heap_alloc_new w _,c1.mono e,c2⟩,fun o' hi=>by have:=h.g.wf _ _ hi; omega,fun hl=>by have:=h.g.b9 hl; omega⟩
      ·rw [cQ k (abU OS)];obtain ⟨⟨vs,el,b1,b2,b3⟩,b4,b5⟩:=h.b.box k cs hk;exact ⟨⟨vs,el,(heap_alloc_old w _ _ (bi b1)).trans b1,b2.mono e,b3⟩,b4,b5⟩
     ·rcases eN hk with ⟨rfl,_⟩|⟨OS,hk⟩
      ·rcases eN iG with ⟨rfl,_⟩|⟨UI,iG⟩
       ·rfl
       ·rw [Hy,cQ k' (abU UI)] at he;have:=h.eh (.inr ⟨k',cs',iG,rfl⟩);omega
      ·rcases eN iG with ⟨rfl,_⟩|⟨UI,iG⟩
       ·rw [Hy,cQ k (abU OS)] at he;have:=h.eh (.inr ⟨k,cs,hk,rfl⟩);omega
       ·rw [cQ k (abU OS),cQ k' (abU UI)] at he;exact h.b.inj k k' cs cs' hk iG he
     ·intro i hi;by_cases hdi:d=i
      ·subst hdi;rw [ay];refine ⟨.pointer (some ⟨w.heap.size,0,none⟩),by simp [Act.put,hdn],?_⟩;show Value.pointer _=_;rw [Hy]
      ·rw [aQ hdi] at hi ⊢;rcases Hw (l:=s.ae) (d:=d) (t:=i) with ⟨h1,h2⟩|h1
       ·rw [h1] at hi ⊢;obtain ⟨c',q1,q2⟩:=h.t i hi;refine ⟨c',?_,?_⟩
        ·simp only [Act.put];rw [Array.getElem?_setIfInBounds_ne hdi];exact q1
        ·cases oJ:lk s.ae i with
         |none=>trivial
         |v y=>rw [oJ] at q2; exact Rel.mono e q2
         |lp k off=>
          rw [oJ] at q2;show c'=_;rw [cQ k (h2 k off oJ)];exact q2
       ·exact absurd h1 hi
    ·rw [Fu];refine ⟨e,rfl,rfl,rfl,by simp,fun b hb _=>heap_alloc_old w _ b hb,fun b hb ho=>?_,fun _ _ hi _ _=>hi⟩;rcases ho with ho|⟨k,cs,hk,he⟩
     ·exact .inl ho
     ·rcases eN hk with ⟨rfl,_⟩|⟨OS,hk⟩
      ·rw [Hy] at he;omega
      ·rw [cQ k (abU OS)] at he;exact .inr ⟨k,cs,hk,he⟩
   ·cases ha
theorem dj {i:TypeInfo} {z:AV} (h:gf i=some z):∃ c,i.zero=some c∧∀ R w,Rel R w z c:=by
 unfold gf at h;split at h
 ·rename_i c hc;exact ⟨c,hc,fun R w=>vf h⟩
 ·cases h
theorem Fv {f:FuncId} (h:bl E R w β s a) (t:TypeId) (ho:o.op=.alloc t) {i:TI} {z:AV} (hi:E.ti t=some i) (hz:i.zero=some z) (hn:z.aY=true) {s':St} (ha:fb E f s o.dst t z.cells=some (true,s')) :
  cm E R w β s a o s':=by
 obtain ⟨hJ,u,e1,e2,e3,e4,e5,e6⟩:=cu E hi;rw [hz] at e6;obtain ⟨c,hc,hr⟩:=dj e6;refine Db h (hr R w) hn (t:=t) ?_ ha;simp [execOp,ho,Instr.alloc,gM w e1 hc,xr]
theorem KM {f:FuncId} (h:bl E R w β s a) (t:TypeId) (x:Operand) (ho:o.op=.box t x) {v:AV} (hv:bJ E s.ae x=.v v) (hn:v.aY=true) {s':St} (ha:fb E f s o.dst t v.cells=some (true,s')) :
  cm E R w β s a o s':=by
 have hr:=aT h x;rw [hv] at hr;refine Db h hr hn (t:=t) ?_ ha;simp [execOp,ho,Instr.box,xr]
end ops
end Go.Am
namespace Go.Am
open Go
section types
variable {P:Program}
theorem nO:∀ {fs:List Field} {l:List (Nat × Nat × Bool)},fieldsOf P fs=some l→∀ {j o sz:Nat} {ag:Bool},nth l j=some (o,sz,ag) →
  ∃ f fi u,fs[j]?=some f∧f.offset=o∧P.info? f.type=some fi∧fi.size=sz∧P.underlying f.type=some u∧jM u=ag
 |[],l,h,j,o,sz,ag,hn=>by simp [fieldsOf] at h; subst h; simp [nth] at hn
 |f :: fs,l,h,j,o,sz,ag,hn=>by
  unfold fieldsOf at h;split at h
  ·rename_i i u r h1 h2 h3;cases h;cases j with
   |zero=>simp [nth] at hn; obtain ⟨e1,e2,e3⟩:=hn; exact ⟨f,i,u,by simp,e1,h1,e2,h2,e3⟩
   |succ j=>
    obtain ⟨f',fi,u',g1,g2⟩:=nO h3 (show nth r j=some (o,sz,ag) from hn);exact ⟨f',fi,u',by simpa using g1,g2⟩
  ·cases h
theorem oF:∀ {fs:List Field} {l:List (Nat × Nat × Bool)},fieldsOf P fs=some l→fs.mapM (fun f=>(P.info? f.type).map fun i=>(f.offset,i.size))=some (l.map fun x=>(x.1,x.2.1))
 |[],l,h=>by simp [fieldsOf] at h; subst h; simp
 |f :: fs,l,h=>by
  unfold fieldsOf at h;split at h
  ·rename_i i u r h1 h2 h3;cases h;simp [List.mapM_cons,h1,oF h3]
  ·cases h
theorem Hz {u:TypeDesc} {l:List (Nat × Nat × Bool)} (h:qO P u=some (.st l)):∃ fs,u=.struct fs∧fieldsOf P fs.toList=some l:=by
 cases u <;> simp only [qO] at h <;> try (cases h; done)
 all_goals (try (split at h <;> cases h; done))
 rename_i fs;split at h
 ·rename_i l' hl;cases h;exact ⟨fs,rfl,hl⟩
 ·cases h
theorem oY {u:TypeDesc} {n esz:Nat} {ag:Bool} (h:qO P u=some (.arr n esz ag)):∃ e i ue,u=.array n e∧P.info? e=some i∧i.size=esz∧P.underlying e=some ue∧jM ue=ag:=by
 cases u <;> simp only [qO] at h <;> try (cases h; done)
 all_goals (try (split at h <;> cases h; done))
 rename_i m e;split at h
 ·rename_i i ue h1 h2;cases h;exact ⟨e,i,ue,rfl,h1,rfl,h2,rfl⟩
 ·cases h
theorem ee {u:TypeDesc} {e esz oZ:Nat} {ag:Bool} {z:Option AV} (h:qO P u=some (.sl e esz ag oZ z)) :
  ∃ i ue,u=.slice e∧P.info? e=some i∧i.size=esz∧i.bytes=oZ∧P.underlying e=some ue∧jM ue=ag∧gf i=z:=by
 cases u <;> simp only [qO] at h <;> try (cases h; done)
 all_goals (try (split at h <;> cases h; done))
 rename_i e';split at h
 ·rename_i i ue h1 h2;injection h with h;injection h with g1 g2 g3 g4 g5;subst g1; subst g2; subst g3; subst g4; subst g5;exact ⟨i,ue,rfl,h1,rfl,rfl,h2,rfl,rfl⟩
 ·cases h
theorem kA {u:TypeDesc} (h:qO P u=some .str):u=.string:=by
 cases u <;> simp only [qO] at h <;> try (cases h; done)
 all_goals (try (split at h <;> cases h; done))
 rfl
theorem sL {u:TypeDesc} {k:IntKind} (h:qO P u=some (.int k)):u=.int k:=by
 cases u <;> simp only [qO] at h <;> try (cases h; done)
 all_goals (try (split at h <;> cases h; done))
 cases h;rfl
theorem mK {u:TypeDesc} {k e:TypeId} {z:Option AV} (h:qO P u=some (.map k e z)):u=.map k e∧∃ i,P.info? e=some i∧gf i=z:=by
 cases u <;> simp only [qO] at h <;> try (cases h; done)
 all_goals (try (split at h <;> cases h; done))
 split at h
 ·rename_i i h1;cases h;exact ⟨rfl,i,h1,rfl⟩
 ·cases h
end types
section ops
variable {E:Env} {R:ak} {w:World} {β:Nat→Nat} {s:St} {a:Act} {o:Oper}
theorem AY {p q:SV} {c:Value} {n:Nat} (hp:qQ R w β p c) (hm:AP n p=some q) :
  ∃ b o,c=.pointer (some ⟨b,o,none⟩)∧qQ R w β q (.pointer (some ⟨b,o+n,none⟩)):=by
 unfold AP at hm;split at hm
 ·cases hm;exact ⟨_,_,hp,rfl⟩
 ·cases hm;cases hp with
  | @ptr _ _ b hb=>exact ⟨b,_,rfl,Rel.ptr hb⟩
 ·cases hm;cases hp with
  | @ep _ b o hr=>
   refine ⟨b,o,rfl,Rel.ep ?_⟩;rw [xp];exact hr.drop n
 ·cases hm;cases hp with
  | @gp _ _ _ _ _ b o _ ro hr eJ=>
   refine ⟨b,o,rfl,Rel.gp hr ?_⟩;cases ro with
   |none=>trivial
   |bO=>exact eJ.elim
   |ca _=>exact eJ.elim
   |bB _=>exact eJ.elim
   |tok f1 b1 c1=>exact ⟨eJ.1,fun e=>⟨(eJ.2 e).1,by rw [(eJ.2 e).2,abO]⟩⟩
 ·cases hm
theorem xw (h:bl E R w β s a) (t:TypeId) (x:Operand) (j:Nat) (ho:o.op=.fieldAddr t x j) {q:SV} (hq:kx E t (bJ E s.ae x) j=some q) :
  cm E R w β s a o (s.put o.dst q):=by
 unfold kx at hq;split at hq
 ·rename_i i hi;split at hq
  ·rename_i fs hk;split at hq
   ·rename_i off sz ag hn;split at hq
    ·rename_i eY;have eY:=aax eY;obtain ⟨hJ,u,e1,e2,e3,e4,e5,e6⟩:=cu E hi;rw [hk] at e5;obtain ⟨fl,rfl,hf⟩:=Hz e5;obtain ⟨f,fi,u',g1,g2,g3,g4,g5,g6⟩:=nO hf hn;obtain ⟨b,o',m1,m2⟩:=AY (aT h x) hq;refine ao h ?_ m2;have g1':fl[j]?=some f:=by simpa using g1
     have cQ:¬ fi.size=0:=by omega
     simp [execOp,ho,Instr.fieldAt,run_underlying e2,g1',m1,aaM,fieldPlace,run_sizeOf w g3,cQ,cH,g2]
    ·cases hq
   ·cases hq
  ·cases hq
 ·cases hq
theorem Dc {b o sz:Nat} {es:List AV} (h:gl R w b o sz es) {n:Nat} {e:AV} (hn:nth es n=some e):dR R w b (o+n * sz) e.cells∧e.cells.length=sz∧e.aY=true:=by
 induction es generalizing o n with
 |nil=>simp [nth] at hn
 |cons x l ih=>
  cases h with
  |cons hl ht _ h t=>
   cases n with
   |zero=>simp [nth] at hn; subst hn; exact ⟨by simpa using h,hl,ht⟩
   |succ n=>
    have:=ih t (show nth l n=some e from hn);rw [show o+sz+n * sz=o+(n+1) * sz by rw [aa5]; omega] at this;exact this
theorem xx (h:bl E R w β s a) (t:TypeId) (x ix:Operand) (ho:o.op=.indexAddr t x ix) {q:SV} (hq:kw E t (bJ E s.ae x) (bJ E s.ae ix)=some (true,q)) :
  cm E R w β s a o (s.put o.dst q):=by
 have rx:=aT h x;have ri:=aT h ix;unfold kw at hq;split at hq
 ·rename_i i k n hi YG;rw [YG] at ri;have TD:Rel R w (.int k n) (a.eval ix):=ri;generalize OT:a.eval ix=iv at TD;cases TD;obtain ⟨hJ,u,e1,e2,e3,e4,e5,e6⟩:=cu E hi;split at hq
  ·-- a list
   rename_i elem esz ag oZ z kk sz es hk hx;rw [hx] at rx;rw [hk] at e5;obtain ⟨ie,ue,rfl,f1,f2,f3,f4,f5,f6⟩:=ee e5;split at hq
   ·rename_i hc;have key:∀ (u:AV),(0≤n∧n < (es.length:Int))→cP (ah es n.toNat).cells u.cells→cm E R w β s a o (s.put o.dst (.v (.ep u.cells))):=fun u xy hu=>by
     obtain ⟨BX,Ko⟩:=xy;have dN:Rel R w (.list kk sz es) (a.eval x):=rx;generalize fy:a.eval x=xv at dN;cases dN with
     |kz=>simp at Ko; omega
     |ja=>simp at Ko; omega
     |nI=>simp at Ko; omega
     |mH=>simp at Ko; omega
     |nJ=>simp at Ko; omega
     | @list _ _ _ b o' len cap hr hl hU KN=>
      subst hl;have bZ:n.toNat < es.length:=by omega
      obtain ⟨e,he⟩:∃ e,nth es n.toNat=some e:=⟨es[n.toNat],by rw [bg]; exact aaX bZ⟩;have eY:sz=esz:=by
       simp only [Bool.or_eq_true] at hc;rcases hc with hc|hc
       ·exact aaB hc
       ·cases es with
        |nil=>simp at bZ
        |cons _ _=>simp at hc
      obtain ⟨g1,_,_⟩:=Dc hr he;refine ao h (c:=.pointer (some ⟨b,o'+n.toNat * sz,none⟩)) ?_ ?_
      ·have fI:0≤n∧n < (es.length:Int):=⟨BX,Ko⟩;simp [execOp,ho,aaZ,OT,fy,asIntOf,run_underlying e2,fI,run_sizeOf w f1,f2,eY,cH]
      ·have:ah es n.toNat=e:=by simp [ah,he]
       rw [this] at hu;exact .ep (hu.KJ g1)
    split at hq
    ·rename_i p hp;injection hq with hq;injection hq with xy pc;subst pc;rw [aab] at xy;have fI:=of_decide_eq_true xy.1;have hd:=p.dc xy.2;have bZ:n.toNat < es.length:=by omega
     refine key _ fI (hd.cells ?_);obtain ⟨e,he⟩:∃ e,nth es n.toNat=some e:=⟨es[n.toNat],by rw [bg]; exact aaX bZ⟩;have:ah es n.toNat=e:=by simp [ah,he]
     rw [this];have dN:Rel R w (.list kk sz es) (a.eval x):=rx;generalize a.eval x=xv at dN;cases dN with
     |kz=>simp at bZ
     |ja=>simp at bZ
     |nI=>simp at bZ
     |mH=>simp at bZ
     |nJ=>simp at bZ
     |list hr _ _ _=>exact (Dc hr he).2.2
    ·injection hq with hq;injection hq with xy pc;subst pc;exact key _ (of_decide_eq_true xy) (cP.refl _)
   ·cases hq
  ·-- a heap slice
   rename_i elem esz ag oZ z id off sz len cap hk hx;rw [hx] at rx;rw [hk] at e5;obtain ⟨ie,ue,rfl,f1,f2,f3,f4,f5,f6⟩:=ee e5;split at hq
   ·rename_i hc;have eY:=aaB hc;injection hq with hq;injection hq with xy pc;subst pc;have fI:=of_decide_eq_true xy;have dN:Rel R w (.jZ id off sz len cap) (a.eval x):=rx;generalize fy:a.eval x=xv at dN;cases dN with
    | @jZ _ _ _ _ _ b hb _=>
     refine ao h (c:=.pointer (some ⟨b,off+n.toNat * sz,none⟩)) ?_ (Rel.ptr hb);simp [execOp,ho,aaZ,OT,fy,asIntOf,run_underlying e2,fI,run_sizeOf w f1,f2,eY,cH]
   ·cases hq
  ·-- a slice that grows
   rename_i elem esz ag oZ z id f' off sz len hk hx;rw [hx] at rx;rw [hk] at e5;obtain ⟨ie,ue,rfl,f1,f2,f3,f4,f5,f6⟩:=ee e5;split at hq
   ·rename_i hc;have eY:=aaB hc;injection hq with hq;injection hq with xy pc;subst pc;have fI:=of_decide_eq_true xy;have dN:Rel R w (.eu id f' off sz len) (a.eval x):=rx;generalize fy:a.eval x=xv at dN;cases dN with
    |iV _ _=>omega
    | @eu _ _ _ _ _ cap b o' ro b6 eJ hU=>
     refine ao h (c:=.pointer (some ⟨b,o'+n.toNat * sz,none⟩)) ?_ (Rel.gp b6 ?_)
     ·simp [execOp,ho,aaZ,OT,fy,asIntOf,run_underlying e2,fI,run_sizeOf w f1,f2,eY,cH]
     ·cases ro with
      |none=>trivial
      |bO=>exact eJ.elim
      |ca _=>exact eJ.elim
      |bB _=>exact eJ.elim
      |tok f1 b1 c1=>
       refine ⟨eJ.1,fun e=>?_⟩;obtain ⟨k1,k2,k3⟩:=eJ.2 e;refine ⟨k1,?_⟩;rcases k3 with k3|k3
       ·rw [k3,abQ,aa5]
       ·omega
   ·cases hq
  ·-- an array that is never written
   rename_i len esz ag cs hk hx;rw [hx] at rx;rw [hk] at e5;obtain ⟨e,ie,ue,rfl,f1,f2,f3,f4⟩:=oY e5;have dN:Rel R w (.ep cs) (a.eval x):=rx;generalize fy:a.eval x=xv at dN;cases dN with
   | @ep _ b o' hr=>
    split at hq
    ·rename_i p hp;split at hq
     ·rename_i hc;rw [aab] at hc;have hz:=aaB hc.1;have hl:=aax hc.2;injection hq with hq;injection hq with xy pc;subst pc;rw [aab] at xy;have fI:=of_decide_eq_true xy.1;have hd:=p.dc xy.2;have bZ:n.toNat < cs.length:=by omega
      have hdr:=hr.drop n.toNat;rw [List.drop_eq_getElem_cons bZ] at hdr;have hn:ah cs n.toNat=cs[n.toNat]:=by
       unfold ah;rw [bg,aaX bZ]
      rw [hn] at hd ⊢;refine ao h (c:=.pointer (some ⟨b,o'+n.toNat * esz,none⟩)) ?_ ?_
      ·simp [execOp,ho,aaZ,OT,fy,aaM,asIntOf,run_underlying e2,fI,run_sizeOf w f1,f2,cH]
      ·subst hz;rw [Nat.mul_one];cases hdr with
       |cons hc h1 hi ej t=>exact .ep (.cons hc h1 hi (hd.1 _ _ _ ej) .nil)
     ·cases hq
    ·injection hq with hq;injection hq with xy pc;subst pc;have fI:=of_decide_eq_true xy;refine ao h (c:=.pointer (some ⟨b,o'+n.toNat * esz,none⟩)) ?_ ?_
     ·simp [execOp,ho,aaZ,OT,fy,aaM,asIntOf,run_underlying e2,fI,run_sizeOf w f1,f2,cH]
     ·rw [xp];exact .ep (hr.drop _)
  ·-- an array
   rename_i len esz ag hk _;rw [hk] at e5;obtain ⟨e,ie,ue,rfl,f1,f2,f3,f4⟩:=oY e5;split at hq
   ·rename_i q' hm;injection hq with hq;injection hq with xy pc;subst pc;have fI:=of_decide_eq_true xy;obtain ⟨b,o',m1,m2⟩:=AY rx hm;refine ao h ?_ m2;simp [execOp,ho,aaZ,OT,m1,aaM,asIntOf,run_underlying e2,fI,run_sizeOf w f1,f2,cH]
   ·cases hq
  ·cases hq
 ·cases hq
theorem mL {t:TypeId} {i:TypeInfo} {u:TypeDesc} (h1:E.P.info? t=some i) (h2:E.P.underlying t=some u) {off:Nat} {cs l:List AV} {vs:List Value} {v:AV} (hr:aK R w cs vs) (h3:∀ x∈vs,x.oneCell'=true)
  (BY:jM u=true→Ht off i.size cs=some l∧tX true l=some v) (UJ:jM u=false→Ht off 1 cs=some l∧tX false l=some v) :
  ∃ c,(part t ⟨vs⟩ off).run E.P w=.ok c w∧Rel R w v c:=by
 unfold part;simp only [aac,AX w h2,aaa];cases ha:jM u with
 |true=>
  obtain ⟨g1,g2⟩:=BY ha;obtain ⟨k1,k2,k3,k4⟩:=qk g1 hr h3;obtain ⟨m1,_⟩:=xu g2 k2 k3;refine ⟨_,?_,m1 rfl⟩;have:(⟨vs⟩:Array Value).extract off (off+i.size)=⟨(vs.drop off).take i.size⟩:=by
   apply abq;simp [List.extract_eq_take_drop]
  simp [run_sizeOf w h1]
 |false=>
  obtain ⟨g1,g2⟩:=UJ ha;obtain ⟨k1,k2,k3,k4⟩:=qk g1 hr h3;obtain ⟨_,m2⟩:=xu g2 k2 k3;obtain ⟨c,hc,ej⟩:=m2 rfl;refine ⟨c,?_,ej⟩;have h0:=k4 0 c (by rw [hc]; simp);simp only [abQ] at h0;simp [h0]
theorem Fw (h:bl E R w β s a) (t:TypeId) (x:Operand) (j:Nat) (ho:o.op=.field t x j) {v:AV} (hq:Fi E t (bJ E s.ae x) j=some v) :
  cm E R w β s a o (s.put o.dst (.v v)):=by
 have rx:=aT h x;unfold Fi at hq;split at hq
 ·rename_i i cs hi hx;rw [hx] at rx;have dN:Rel R w (.agg cs) (a.eval x):=rx;generalize fy:a.eval x=xv at dN;cases dN with
  | @agg _ vs hr h1=>
  split at hq
  ·rename_i fs hk;split at hq
   ·rename_i off sz ag hn;obtain ⟨hJ,u,e1,e2,e3,e4,e5,e6⟩:=cu E hi;rw [hk] at e5;obtain ⟨fl,rfl,hf⟩:=Hz e5;obtain ⟨f,fi,u',g1,g2,g3,g4,g5,g6⟩:=nO hf hn;have key:∃ c,(part f.type ⟨vs⟩ off).run E.P w=.ok c w∧Rel R w v c:=by
     split at hq
     ·rename_i BY;split at hq
      ·rename_i l hl;exact mL g3 g5 (l:=l) hr h1 (fun _=>⟨by rw [g4]; exact hl,hq⟩) (fun hf=>by rw [g6,BY] at hf; cases hf)
      ·cases hq
     ·rename_i BY;split at hq
      ·rename_i l hl;exact mL g3 g5 (l:=l) hr h1 (fun hf=>by rw [g6] at hf; exact absurd hf BY) (fun _=>⟨hl,hq⟩)
      ·cases hq
    obtain ⟨c,k1,k2⟩:=key;refine ao h ?_ k2;have g1':fl[j]?=some f:=by simpa using g1
    simp [execOp,ho,Instr.field,run_underlying e2,g1',fy,asAgg,g2,k1]
   ·cases hq
  ·cases hq
 ·cases hq
theorem Fx (h:bl E R w β s a) (t:TypeId) (x ix:Operand) (ho:o.op=.index t x ix) {v:AV} (hq:Fj E t (bJ E s.ae x) (bJ E s.ae ix)=some (true,v)) :
  cm E R w β s a o (s.put o.dst (.v v)):=by
 have rx:=aT h x;have ri:=aT h ix;unfold Fj at hq;split at hq
 ·rename_i i l k n hi hx YG;rw [hx] at rx;rw [YG] at ri;have TD:Rel R w (.int k n) (a.eval ix):=ri;have dN:Rel R w (.str l) (a.eval x):=rx;generalize OT:a.eval ix=iv at TD;generalize fy:a.eval x=xv at dN;cases TD;cases dN;obtain ⟨hJ,u,e1,e2,e3,e4,e5,e6⟩:=cu E hi;split at hq
  ·rename_i hk;rw [hk] at e5;have:=kA e5;subst this;injection hq with hq;injection hq with xy pc;subst pc;obtain ⟨BX,Ko⟩:=of_decide_eq_true xy;have bZ:n.toNat < l.length:=by omega
   refine ao h (c:=.int .u8 (l.getD n.toNat 0).toNat) ?_ (Rel.int _ _);have j5:(⟨⟨l⟩⟩:ByteArray)[n.toNat]?=some (l.getD n.toNat 0):=by
    have hs:n.toNat < (⟨⟨l⟩⟩:ByteArray).size:=bZ;rw [getElem?_pos (⟨⟨l⟩⟩:ByteArray) n.toNat hs];congr 1;simp [List.getD,aaX bZ];rfl
   simp [execOp,ho,Instr.index,OT,fy,asIntOf,run_underlying e2,BX,j5]
  ·cases hq
 ·rename_i i cs k n hi hx YG;rw [hx] at rx;rw [YG] at ri;have TD:Rel R w (.int k n) (a.eval ix):=ri;have dN:Rel R w (.agg cs) (a.eval x):=rx;generalize OT:a.eval ix=iv at TD;generalize fy:a.eval x=xv at dN;cases TD;cases dN with
  | @agg _ vs hr h1=>
  obtain ⟨hJ,u,e1,e2,e3,e4,e5,e6⟩:=cu E hi;split at hq
  ·rename_i len esz ag hk;rw [hk] at e5;obtain ⟨e,ie,ue,rfl,f1,f2,f3,f4⟩:=oY e5;split at hq
   ·rename_i v' UK;injection hq with hq;injection hq with xy pc;subst pc;have fI:=of_decide_eq_true xy;have key:∃ c,(part e ⟨vs⟩ (n.toNat * esz)).run E.P w=.ok c w∧Rel R w v' c:=by
     split at UK
     ·rename_i BY;split at UK
      ·rename_i l hl;exact mL f1 f3 (l:=l) hr h1 (fun _=>⟨by rw [f2]; exact hl,UK⟩) (fun hf=>by rw [f4,BY] at hf; cases hf)
      ·cases UK
     ·rename_i BY;split at UK
      ·rename_i l hl;exact mL f1 f3 (l:=l) hr h1 (fun hf=>by rw [f4] at hf; exact absurd hf BY) (fun _=>⟨hl,UK⟩)
      ·cases UK
    obtain ⟨c,k1,k2⟩:=key;refine ao h ?_ k2;simp [execOp,ho,Instr.index,OT,fy,asIntOf,run_underlying e2,fI,run_sizeOf w f1,f2,k1]
   ·cases hq
  ·cases hq
 ·cases hq
theorem BZ (h:bl E R w β s a) (x:Operand) (j:Nat) (ho:o.op=.extract x j) {vs:List AV} {v:AV} (hx:bJ E s.ae x=.v (.bk vs)) (hn:nth vs j=some v) :
  cm E R w β s a o (s.put o.dst (.v v)):=by
 have rx:=aT h x;rw [hx] at rx;have dN:Rel R w (.bk vs) (a.eval x):=rx;generalize fy:a.eval x=xv at dN;cases dN with
 | @bk _ us hr=>
 rw [bg] at hn;obtain ⟨c,h1,h2⟩:=hr.get hn;refine ao h ?_ h2;simp [execOp,ho,Instr.extract,fy,h1]
theorem gT (h:bl E R w β s a):∀ {l:List Operand} {vs:List AV},nE E s.ae l=some vs→aK R w vs (l.map a.eval)
 |[],vs,hl=>by simp [nE] at hl; subst hl; exact .nil
 |x :: l,vs,hl=>by
  unfold nE at hl;split at hl
  ·rename_i v r h1 h2;cases hl;have:=aT h x;rw [h1] at this;exact .cons this (gT h h2)
  ·cases hl
theorem An (h:bl E R w β s a) (g:FuncId) (x y:Array Operand) (ho:o.op=.makeFunc (.func g) x y) {p q:List AV} (hp:nE E s.ae x.toList=some p) (hq:nE E s.ae y.toList=some q) :
  cm E R w β s a o (s.put o.dst (.v (.fn g p q))):=by
 have h1:=gT h hp;have h2:=gT h hq;refine ao h (c:=.func (.func g) ⟨x.toList.map a.eval⟩ ⟨y.toList.map a.eval⟩) ?_ (Rel.fn h1 h2);have e1:x.map a.eval=⟨x.toList.map a.eval⟩:=abq (by simp);have e2:y.map a.eval=⟨y.toList.map a.eval⟩:=abq (by simp);simp [execOp,ho,Instr.makeFunc,e1,e2]
end ops
end Go.Am
namespace Go.Am
open Go
section ops
variable {E:Env} {R:ak} {w:World} {β:Nat→Nat} {s:St} {a:Act} {o:Oper}
theorem size_bytes (l:List UInt8):(⟨⟨l⟩⟩:ByteArray).size=l.length:=rfl
theorem sM (l:List UInt8):(⟨⟨l⟩⟩:ByteArray).toList=l:=by rw [ByteArray.toList_eq]
theorem B0 (l r:List UInt8):((⟨⟨l⟩⟩:ByteArray)++⟨⟨r⟩⟩)=⟨⟨l++r⟩⟩:=by
 apply ByteArray.ext;rw [ByteArray.data_append];simp
theorem IY (op:BinOp) (t:TypeId) (x y:Operand) (k k':IntKind) (n m:Int):(eqGuard op t x y (.int k n) (.int k' m)).run E.P w=.ok () w:=by
 unfold eqGuard;cases op <;> rfl
theorem IZ (op:BinOp) (t:TypeId) (x y:Operand) (n m:ByteArray):(eqGuard op t x y (.string n) (.string m)).run E.P w=.ok () w:=by
 unfold eqGuard;cases op <;> rfl
theorem Fy (h:bl E R w β s a) (op:BinOp) (t u:TypeId) (x y:Operand) (ho:o.op=.binOp op t x y u) {p q v:AV} (hx:bJ E s.ae x=.v p) (hy:bJ E s.ae y=.v q) (hv:C8 op p q=some (true,v)) :
  cm E R w β s a o (s.put o.dst (.v v)):=by
 have rx:=aT h x;have ry:=aT h y;rw [hx] at rx;rw [hy] at ry;have dN:Rel R w p (a.eval x):=rx;have qY:Rel R w q (a.eval y):=ry;have key:∃ c,(do eqGuard op t x y (a.eval x) (a.eval y); binOp op t (a.eval x) (a.eval y):Sem Value).run E.P w=.ok c w∧Rel R w v c:=by
  generalize fy:a.eval x=xv at dN;generalize YH:a.eval y=yv at qY;unfold C8 at hv;split at hv
  ·rename_i k n k' m;cases dN;cases qY;simp only [aac,IY,aaa];split at hv
   ·injection hv with hv;injection hv with h1 h2;subst h2;have hm:=of_decide_eq_true h1;have UL:¬ m < 0:=by omega
    exact ⟨.int k (k.wrap (n * 2 ^ (min m.toNat k.bits))),by simp [binOp,Op.shift,UL],.int _ _⟩
   ·injection hv with hv;injection hv with h1 h2;subst h2;have hm:=of_decide_eq_true h1;have UL:¬ m < 0:=by omega
    exact ⟨.int k (n.fdiv (2 ^ (min m.toNat k.bits))),by simp [binOp,Op.shift,UL],.int _ _⟩
   ·rename_i HA hs2;split at hv
    ·rename_i KN;subst KN;split at hv
     ·cases hv; exact ⟨.int k (k.wrap (n+m)),by simp [binOp,abT],.int _ _⟩
     ·cases hv; exact ⟨.int k (k.wrap (n - m)),by simp [binOp,abT],.int _ _⟩
     ·cases hv; exact ⟨.int k (k.wrap (n * m)),by simp [binOp,abT],.int _ _⟩
     ·injection hv with hv;injection hv with h1 h2;subst h2;have hm:¬ m=0:=by simpa using h1
      exact ⟨.int k (k.wrap (n.tdiv m)),by simp [binOp,Op.intDiv,hm],.int _ _⟩
     ·injection hv with hv;injection hv with h1 h2;subst h2;have hm:¬ m=0:=by simpa using h1
      exact ⟨.int k (n.tmod m),by simp [binOp,Op.intDiv,hm],.int _ _⟩
     ·cases hv; exact ⟨.int k (IN k n m),by simp [binOp,Op.intBits,IN],.int _ _⟩
     ·cases hv; exact ⟨.int k (orI k n m),by simp [binOp,Op.intBits,orI],.int _ _⟩
     ·cases hv; exact ⟨.int k (IP k n m),by simp [binOp,Op.intBits,IP],.int _ _⟩
     ·cases hv; exact ⟨.bool (n == m),by simp [binOp,abK],.bool _⟩
     ·cases hv; exact ⟨.bool (n != m),by simp [binOp,abK],.bool _⟩
     ·cases hv; exact ⟨.bool (decide (n < m)),by simp [binOp,abK],.bool _⟩
     ·cases hv; exact ⟨.bool (decide (n≤m)),by simp [binOp,abK],.bool _⟩
     ·cases hv; exact ⟨.bool (decide (n > m)),by simp [binOp,abK],.bool _⟩
     ·cases hv; exact ⟨.bool (decide (n≥m)),by simp [binOp,abK],.bool _⟩
     ·cases hv
    ·cases hv
  ·rename_i l r;cases dN;cases qY;simp only [aac,IZ,aaa];split at hv
   ·injection hv with hv;injection hv with h1 h2;subst h2;have hm:=of_decide_eq_true h1;refine ⟨.string ⟨⟨l++r⟩⟩,?_,.str _⟩;have UM:¬ ((l.length+r.length:Nat):Int) > IntKind.i64.max:=by
     have:IntKind.i64.max=9223372036854775807:=by decide
     omega
    simp only [binOp,aa3,size_bytes,if_neg UM,B0,aaC]
   ·cases hv; exact ⟨.bool (l == r),by simp [binOp,aa3],.bool _⟩
   ·cases hv; exact ⟨.bool (!(l == r)),by simp [binOp,aa3],.bool _⟩
   ·cases hv; exact ⟨.bool (abR l r),by simp [binOp,aa3],.bool _⟩
   ·cases hv; exact ⟨.bool (abR l r || l == r),by simp [binOp,aa3],.bool _⟩
   ·cases hv; exact ⟨.bool (!(abR l r || l == r)),by simp [binOp,aa3],.bool _⟩
   ·cases hv; exact ⟨.bool (!(abR l r)),by simp [binOp,aa3],.bool _⟩
   ·cases hv
  ·cases hv
 obtain ⟨c,k1,k2⟩:=key;refine ao h (c:=c) ?_ k2;simp only [aac] at k1;simp only [execOp,ho,aac,k1,aaa,aaC]
theorem km {t:TypeId} {i:TypeInfo} {u:TypeDesc} (h1:E.P.info? t=some i) (h2:E.P.underlying t=some u) {off:Nat} {cs:List AV} {vs:List Value} {v:AV} (hr:aK R w cs vs) (h3:∀ x∈vs,x.oneCell'=true)
  (h:Hu (jM u) off i.size cs=some v):∃ c,(part t ⟨vs⟩ off).run E.P w=.ok c w∧Rel R w v c:=by
 unfold Hu at h;cases ha:jM u with
 |true=>
  rw [ha] at h;simp only [if_true] at h;split at h
  ·rename_i l hl;exact mL h1 h2 hr h3 (fun _=>⟨hl,h⟩) (fun e=>by rw [ha] at e; cases e)
  ·cases h
 |false=>
  rw [ha] at h;simp only [abJ,if_false] at h;split at h
  ·rename_i l hl;exact mL h1 h2 hr h3 (fun e=>by rw [ha] at e; cases e) (fun _=>⟨hl,h⟩)
  ·cases h
theorem Dd {ek:TypeId→EK} {d:Nat} (ih:∀ (t:TypeId) (a b:AV) (r:Bool) (x y:Value),ls (ek t) a b=some r→Rel R w a x→Rel R w b y→(abY d t x y).run E.P w=.ok r w) {xs ys:List AV} {vs us:List Value}
  (hx:aK R w xs vs) (vW:∀ x∈vs,x.oneCell'=true) (hy:aK R w ys us) (Pj:∀ x∈us,x.oneCell'=true) :
  ∀ (fs:List Field) (l:Tz) (r:Bool),Fh E.P ek fs=some l→tY l xs ys=some r→(Op.eqFields d ⟨vs⟩ ⟨us⟩ fs).run E.P w=.ok r w
 |[],l,r,hl,hr=>by
  simp [Fh] at hl;subst hl;simp [tY] at hr;subst hr;rfl
 |f :: fs,l,r,hl,hr=>by
  unfold Fh at hl;split at hl
  ·cases hl
  ·rename_i hn;split at hl
   ·rename_i i u l' h1 h2 h3;cases hl;unfold tY at hr;split at hr
    ·rename_i a b ha hb;split at hr
     ·rename_i p q hp hq;cases hr;obtain ⟨c,k1,k2⟩:=km h1 h2 hx vW ha;obtain ⟨c',k3,k4⟩:=km h1 h2 hy Pj hb;have cQ : f.name ≠ "_" := by simpa using hn
      have he:=ih f.type a b p c c' hp k2 k4;have xz:=Dd ih hx vW hy Pj fs l' q h3 hq;simp only [Op.eqFields,cQ,ne_eq,not_false_eq_true,if_true,aac,k1,k3,he,aaa];cases p with
      |true=>simp [xz]
      |false=>simp
     ·cases hr
    ·cases hr
   ·cases hl
theorem AZ {ek:EK} {d:Nat} {e:TypeId} {i:TypeInfo} {u:TypeDesc} (h1:E.P.info? e=some i) (h2:E.P.underlying e=some u) (ih:∀ (a b:AV) (r:Bool) (x y:Value),ls ek a b=some r→Rel R w a x→Rel R w b y→(abY d e x y).run E.P w=.ok r w) {xs ys:List AV} {vs us:List Value}
  (hx:aK R w xs vs) (vW:∀ x∈vs,x.oneCell'=true) (hy:aK R w ys us) (Pj:∀ x∈us,x.oneCell'=true) :
  ∀ (m k:Nat) (r:Bool),tY (xi i.size (jM u) ek m k) xs ys=some r→(Op.eqItems d e i.size ⟨vs⟩ ⟨us⟩ (List.range' k m)).run E.P w=.ok r w
 |0,k,r,hr=>by
  simp [xi,tY] at hr;subst hr;rfl
 |m+1,k,r,hr=>by
  unfold xi tY at hr;split at hr
  ·rename_i a b ha hb;split at hr
   ·rename_i p q hp hq;cases hr;obtain ⟨c,k1,k2⟩:=km h1 h2 hx vW ha;obtain ⟨c',k3,k4⟩:=km h1 h2 hy Pj hb;have he:=ih a b p c c' hp k2 k4;have xz:=AZ h1 h2 ih hx vW hy Pj m (k+1) q hq;simp only [List.range'_succ,Op.eqItems,aac,k1,k3,he,aaa];cases p with
    |true=>simpa using xz
    |false=>simp
   ·cases hr
  ·cases hr
theorem B1:∀ (n d:Nat),n≤d→∀ (t:TypeId) (a b:AV) (r:Bool) (x y:Value),ls (qP E.P n t) a b=some r→Rel R w a x→Rel R w b y→(abY d t x y).run E.P w=.ok r w
 |0,_,_,t,a,b,r,x,y,h,_,_=>by simp [qP,ls] at h
 |n+1,0,hd,_,_,_,_,_,_,_,_,_=>by omega
 |n+1,d+1,hd,t,a,b,r,x,y,h,hx,hy=>by
  unfold qP at h;split at h
  ·rename_i hu;unfold ls at h;split at h
   all_goals (try contradiction)
   cases hx; cases hy; cases h;exact run_equalIn_bool' w d t _ _ hu
  ·rename_i k hu;unfold ls at h;split at h
   all_goals (try contradiction)
   split at h
   ·rename_i hk;subst hk;cases hx; cases hy; cases h;exact run_equalIn_int w d t _ k _ _ hu
   ·cases h
  ·rename_i hu;unfold ls at h;split at h
   all_goals (try contradiction)
   cases hx; cases hy; cases h;rw [run_equalIn_string w d t _ _ hu,sM,sM]
  ·rename_i fs hu;split at h
   ·simp [ls] at h
   ·rename_i hs;split at h
    ·rename_i l hl;unfold ls at h;split at h
     all_goals (try contradiction)
     rename_i UN xs ys hk;cases hk;cases hx with
     |agg hx vW=>
     cases hy with
     |agg hy Pj=>
     have hf:E.P.fieldsOf t=fs:=by simp [Program.fieldsOf,hu]
     rw [run_equalIn_struct w d t _ _ (by rw [hf]; exact hu) (by simpa using hs),hf];exact Dd (fun t a b r x y=>B1 n d (by omega) t a b r x y) hx vW hy Pj fs.toList _ r hl h
    ·simp [ls] at h
  ·rename_i m e hu;split at h
   ·rename_i i ud g1 g2;unfold ls at h;split at h
    all_goals (try contradiction)
    rename_i UN xs ys hk;cases hk;cases hx with
    |agg hx vW=>
    cases hy with
    |agg hy Pj=>
    have ql:E.P.cellsOf e=i.size:=by simp [Program.cellsOf,g1]
    rw [run_equalIn_array (P:=E.P) w d _ _ hu g1,ql,List.range_eq_range'];exact AZ g1 g2 (fun a b r x y=>B1 n d (by omega) e a b r x y) hx vW hy Pj m 0 r h
   ·simp [ls] at h
  ·simp [ls] at h
theorem kn {t:TypeId} {i:TI} (hi:E.ti t=some i) {p q:AV} {r:Bool} {x y:Value} (h:ls i.ek p q=some r) (hx:Rel R w p x) (hy:Rel R w q y) :
  (abY 10000 t x y).run E.P w=.ok r w∧((∃ b c,x=.bool b∧y=.bool c)∨(∃ k n k' m,x=.int k n∧y=.int k' m)∨(∃ n m,x=.string n∧y=.string m)∨(∃ n m,x=.agg n∧y=.agg m∧E.P.eqGuardType E.P.depth t=false)):=by
 have A0:i.ek=vb E.P t:=by
  have:=E.IM t i hi;unfold IL at this;split at this
  ·split at this
   ·cases this; rfl
   ·cases this
  ·cases this
 rw [A0] at h;have hg:ls (qP E.P 6 t) p q=some r∧((∃ l,qP E.P 6 t=.st l)→E.P.eqGuardType E.P.depth t=false):=by
  unfold vb at h;split at h
  ·rename_i l hl;split at h
   ·simp [ls] at h
   ·rename_i I0;exact ⟨by rw [hl]; exact h,fun _=>by simpa using I0⟩
  ·rename_i k hk;exact ⟨h,fun ⟨l,hl⟩=>absurd hl (hk l)⟩
 refine ⟨B1 6 10000 (by omega) t p q r x y hg.1 hx hy,?_⟩;have h2:=hg.1;have h3:=hg.2;generalize qP E.P 6 t=k at h2 h3;unfold ls at h2;split at h2
 ·cases hx; cases hy; exact .inl ⟨_,_,rfl,rfl⟩
 ·cases hx; cases hy; exact .inr (.inl ⟨_,_,_,_,rfl,rfl⟩)
 ·cases hx; cases hy; exact .inr (.inr (.inl ⟨_,_,rfl,rfl⟩))
 ·cases hx; cases hy; exact .inr (.inr (.inr ⟨_,_,rfl,rfl,h3 ⟨_,rfl⟩⟩))
 ·cases h2
theorem KO (h:bl E R w β s a) (op:BinOp) (t u:TypeId) (x y:Operand) (ho:o.op=.binOp op t x y u) {p q:AV} {r:Bool} (hx:bJ E s.ae x=.v p) (hy:bJ E s.ae y=.v q) (hb:C8 op p q=none) (hv:eqO E op t p q=some r) :
  cm E R w β s a o (s.put o.dst (.v (.bool r))):=by
 have rx:=aT h x;have ry:=aT h y;rw [hx] at rx;rw [hy] at ry;have dN:Rel R w p (a.eval x):=rx;have qY:Rel R w q (a.eval y):=ry;have key:(do eqGuard op t x y (a.eval x) (a.eval y); binOp op t (a.eval x) (a.eval y):Sem Value).run E.P w=.ok (.bool r) w:=by
  generalize fy:a.eval x=xv at dN;generalize YH:a.eval y=yv at qY;unfold eqO at hv;split at hv
  ·rename_i i hi;obtain ⟨k1,k2⟩:=kn hi hv dN qY;rcases k2 with ⟨b,c,rfl,rfl⟩|⟨k,n,k',m,rfl,rfl⟩|⟨n,m,rfl,rfl⟩|⟨n,m,rfl,rfl,hg⟩
   ·have Fz:(eqGuard .eql t x y (.bool b) (.bool c)).run E.P w=.ok () w:=rfl;simp [Fz,binOp,Op.equal,Op.maxDepth,k1]
   ·cases dN; cases qY; simp [C8] at hb;cases hk:i.ek <;> simp [hk,ls] at hv;exact absurd hv.1 hb
   ·cases dN; cases qY; simp [C8] at hb
   ·simp only [aac,run_eqGuard_agg w _ t x y n m hg,aaa,run_eql_struct,k1]
  ·rename_i i hi;split at hv
   ·rename_i r' mh;cases hv;obtain ⟨k1,k2⟩:=kn hi mh dN qY;rcases k2 with ⟨b,c,rfl,rfl⟩|⟨k,n,k',m,rfl,rfl⟩|⟨n,m,rfl,rfl⟩|⟨n,m,rfl,rfl,hg⟩
    ·have Fz:(eqGuard .neq t x y (.bool b) (.bool c)).run E.P w=.ok () w:=rfl;simp [Fz,binOp,Op.equal,Op.maxDepth,k1]
    ·cases dN; cases qY; simp [C8] at hb;cases hk:i.ek <;> simp [hk,ls] at mh;exact absurd mh.1 hb
    ·cases dN; cases qY; simp [C8] at hb
    ·simp only [aac,run_eqGuard_agg w _ t x y n m hg,aaa,run_neq_struct,k1]
   ·cases hv
  ·cases hv
 refine ao h (c:=.bool r) ?_ (.bool r);simp only [aac] at key;simp only [execOp,ho,aac,key,aaa,aaC]
theorem KP (h:bl E R w β s a) (t:TypeId) (x:Operand) (ho:o.op=.unOp .not t x) {b:Bool} (hx:bJ E s.ae x=.v (.bool b)):cm E R w β s a o (s.put o.dst (.v (.bool (!b)))):=by
 have rx:=aT h x;rw [hx] at rx;have dN:Rel R w (.bool b) (a.eval x):=rx;generalize fy:a.eval x=xv at dN;cases dN;refine ao h (c:=.bool (!b)) ?_ (Rel.bool _);simp [execOp,ho,Op.unary,fy]
theorem KQ (h:bl E R w β s a) (t:TypeId) (x:Operand) (ho:o.op=.unOp .neg t x) {k:IntKind} {n:Int} (hx:bJ E s.ae x=.v (.int k n)):cm E R w β s a o (s.put o.dst (.v (.int k (k.wrap (0 - n))))):=by
 have rx:=aT h x;rw [hx] at rx;have dN:Rel R w (.int k n) (a.eval x):=rx;generalize fy:a.eval x=xv at dN;cases dN;refine ao h (c:=.int k (k.wrap (0 - n))) ?_ (Rel.int _ _);simp [execOp,ho,Op.unary,abT,fy]
theorem A1:∀ (us:List Value) (off j0:Nat) (cells:Array Value),off+j0+us.length≤cells.size →
  ((us.zipIdx j0).foldl (fun (cs:Array Value) (p:Value × Nat)=>cs.setIfInBounds (off+p.2) p.1) cells).toList=cells.toList.take (off+j0)++us++cells.toList.drop (off+j0+us.length)
 |[],off,j0,cells,_=>by simp
 |u :: us,off,j0,cells,h=>by
  have bZ:off+j0 < cells.size:=by simp at h; omega
  have ih:=A1 us off (j0+1) (cells.setIfInBounds (off+j0) u) (by simp at h ⊢; omega);simp only [List.zipIdx_cons,List.foldl_cons];rw [ih];have e:=list_seg_step cells.toList (off+j0) u us (by simp at h ⊢; omega);simpa [Array.toList_setIfInBounds,abO] using e
theorem pd (place:Nat→Option (Nat × Nat)):∀ {ps:List (Nat × AV)} {qs:List (Nat × Value)} {cells xA:List AV} {vs:List Value},
  aK R w (ps.map (·.2)) (qs.map (·.2))→ps.map (·.1)=qs.map (·.1)→aK R w cells vs→(∀ x∈vs,x.oneCell'=true)→vc place cells ps=some xA →
  ∃ us,abP place ⟨vs⟩ qs=some ⟨us⟩∧aK R w xA us∧∀ x∈us,x.oneCell'=true
 |[],qs,cells,xA,vs,h1,h2,h3,h4,h5=>by
  have:qs=[]:=by simpa using h2.symm
  subst this;simp [vc] at h5;subst h5;exact ⟨vs,rfl,h3,h4⟩
 |(i,v) :: ps,[],cells,xA,vs,h1,h2,h3,h4,h5=>by simp at h2
 |(i,v) :: ps,(j,c) :: qs,cells,xA,vs,h1,h2,h3,h4,h5=>by
  simp only [ab1,List.cons.injEq] at h2;obtain ⟨rfl,h2⟩:=h2;cases h1 with
  |cons hr h1=>
  unfold vc at h5;split at h5
  ·cases h5
  ·rename_i off sz hp;split at h5
   ·rename_i fI;simp only [aab] at fI;obtain ⟨⟨OR,hlen⟩,hle⟩:=fI;have hlen:=aaB hlen;have hle:=aax hle;obtain ⟨c1,c2⟩:=Rel.cells hr OR;have E9:c.cells.toList.length=sz:=by rw [← c1.length]; exact hlen
    have hb:off+v.cells.length≤cells.length:=by omega
    obtain ⟨us,u1,u2,u3⟩:=pd place h1 h2 (h3.bf c1 hb) (jc h4 c2) h5;refine ⟨us,?_,u2,u3⟩;have eY:c.cells.size=sz:=by simpa using E9
    have TE:vs.length=cells.length:=h3.length.symm;have YI:c.cells.zipIdx.foldl (fun (cs:Array Value) (x:Value × Nat)=>cs.setIfInBounds (off+x.2) x.1) ⟨vs⟩=⟨vs.take off++c.cells.toList++vs.drop (off+c.cells.toList.length)⟩:=by
     apply abq;rw [← Array.foldl_toList,Array.toList_zipIdx];have:=A1 c.cells.toList off 0 ⟨vs⟩ (by simp only [List.size_toArray]; omega);simpa using this
    have cL:(c.cells.size≠sz || decide (off+c.cells.size > (⟨vs⟩:Array Value).size))=false:=by
     have HA:decide (c.cells.size≠sz)=false:=by simp [eY]
     have hs2:decide (off+c.cells.size > (⟨vs⟩:Array Value).size)=false:=by
      rw [decide_eq_false_iff_not,eY];show ¬ off+sz > vs.length;omega
     rw [HA,hs2];rfl
    unfold abP;simp only [hp,cL,abJ,if_false];rw [← u1];exact congrArg (fun z=>abP place z qs) YI
   ·cases h5
theorem wF (h:bl E R w β s a):∀ {l:List (Nat × Operand)} {ps:List (Nat × AV)},OQ E s.ae l=some ps →
  aK R w (ps.map (·.2)) ((l.map fun x=>(x.1,a.eval x.2)).map (·.2))∧ps.map (·.1)=(l.map fun x=>(x.1,a.eval x.2)).map (·.1)
 |[],ps,hl=>by simp [OQ] at hl; subst hl; exact ⟨.nil,rfl⟩
 |(i,x) :: l,ps,hl=>by
  unfold OQ at hl;split at hl
  ·rename_i v r h1 h2;cases hl;have hx:=aT h x;rw [h1] at hx;obtain ⟨g1,g2⟩:=wF h h2;exact ⟨.cons hx g1,by simpa using g2⟩
  ·cases hl
theorem FA (h:bl E R w β s a) (t:TypeId) (parts:Array (Nat × Operand)) (ho:o.op=.build t parts) {v:AV} (hv:nF E s t parts.toList=some v) :
  cm E R w β s a o (s.put o.dst (.v v)):=by
 unfold nF at hv;split at hv
 ·rename_i i ps hi FB;split at hv
  ·rename_i z hz;split at hv
   ·rename_i cs ql;split at hv
    ·rename_i BY;cases hv;simp only [aab] at BY;obtain ⟨BY,su⟩:=BY;obtain ⟨hJ,u,e1,e2,e3,e4,e5,e6⟩:=cu E hi;rw [hz] at e6;obtain ⟨zc,tR,Fa⟩:=dj e6;obtain ⟨p1,p2⟩:=wF h FB;obtain ⟨c1,c2⟩:=Rel.cells (Fa R w) su;have UO:(parts.map fun (x:Nat × Operand)=>(x.1,a.eval x.2)).toList=parts.toList.map fun x=>(x.1,a.eval x.2):=by simp
     have key:∃ us,E.P.built t (parts.toList.map fun x=>(x.1,a.eval x.2))=some ⟨us⟩∧aK R w cs us∧∀ x∈us,x.oneCell'=true:=by
      cases u <;> simp only [jM] at e4 <;> first | (rw [BY] at e4; cases e4; done) | skip
      ·rename_i n e;simp only [qO] at e5;split at e5
       ·rename_i ie ue f1 f2;injection e5 with e5;rw [← e5] at ql;obtain ⟨us,u1,u2,u3⟩:=pd (R:=R) (w:=w) _ p1 p2 c1 c2 ql;refine ⟨us,?_,u2,u3⟩;unfold Program.built;simp only [e1,e2,tR,f1];rw [← u1];rfl
       ·cases e5
      ·rename_i fs;simp only [qO] at e5;split at e5
       ·rename_i l hl;injection e5 with e5;rw [← e5] at ql;obtain ⟨us,u1,u2,u3⟩:=pd (R:=R) (w:=w) _ p1 p2 c1 c2 ql;refine ⟨us,?_,u2,u3⟩;unfold Program.built;simp only [e1,e2,tR,oF hl];rw [← u1];have XY:placeOf (.st l)=fun j=>(l.map fun x=>(x.1,x.2.1)).toArray[j]?:=by
         funext j;simp only [placeOf,bg,List.getElem?_toArray,List.getElem?_map];cases l[j]? <;> rfl
        rw [XY]
       ·cases e5
     obtain ⟨us,u1,u2,u3⟩:=key;refine ao h (c:=.agg ⟨us⟩) ?_ (Rel.agg u2 u3);have bE:=run_build (P:=E.P) w t (parts.map fun (x:Nat × Operand)=>(x.1,a.eval x.2)) ⟨us⟩ (by rw [UO]; exact u1);simp only [execOp,ho,aac,bE,aaa,aaC]
    ·cases hv
   ·cases hv
  ·cases hv
 ·cases hv
end ops
end Go.Am
namespace Go.Am
open Go
theorem cX (l r:List AV):aq (l++r)=aq l++aq r:=by
 induction l with
 |nil=>rfl
 |cons e l ih=>simp [aq,ih]
theorem dO {sz:Nat} {es:List AV} (h:jt sz es):(aq es).length=es.length * sz:=by
 induction es with
 |nil=>simp [aq]
 |cons e es ih=>
  have h1:=(h e (by simp)).1;have:=ih (fun x hx=>h x (by simp [hx]));simp only [aq,abN,this,h1,List.length_cons,aa5];omega
section rel
variable {R:ak} {w:World}
theorem mM {b sz:Nat}:∀ {es:List AV} {o:Nat},jt sz es→dR R w b o (aq es)→gl R w b o sz es
 |[],_,_,_=>.nil
 |e :: es,o,h,hc=>by
  obtain ⟨h1,h2,h3⟩:=h e (by simp);obtain ⟨vs,k1,k2,k3,k4⟩:=hc.get;have hd:=hc.drop sz;have YJ:(aq (e :: es)).drop sz=aq es:=by simp only [aq]; rw [← h1,List.drop_left]
  have KR:(aq (e :: es)).take sz=e.cells:=by simp only [aq]; rw [← h1,List.take_left]
  rw [YJ] at hd;refine .cons h1 h2 h3 ?_ (mM (fun x hx=>h x (by simp [hx])) hd);have kt:=k1.take sz;rw [KR] at kt;refine .make kt (fun v hv=>k2 v (aba hv)) (fun j v hv=>k3 j v ?_) (fun j hj=>k4 j ?_)
  ·rw [List.getElem?_take] at hv;split at hv
   ·exact hv
   ·cases hv
  ·simp only [aq,abN];omega
theorem xB {b sz:Nat}:∀ {es:List AV} {o:Nat},gl R w b o sz es→jt sz es∧∃ vs,aK R w (aq es) vs∧(∀ v∈vs,v.oneCell'=true)∧(∀ j v,vs[j]?=some v→w.cell? ⟨b,o+j,none⟩=some v)∧∀ j,j < es.length * sz→R.I b (o+j)
 |[],o,_=>⟨fun e he=>by simp at he,[],.nil,by simp,by simp,by simp⟩
 |e :: es,o,h=>by
  cases h with
  |cons hl ht hk hc t=>
   obtain ⟨g0,vs,g1,g2,g3,g4⟩:=xB t;obtain ⟨us,f1,f2,f3,f4⟩:=hc.get;have hlen:us.length=sz:=by rw [← f1.length,hl]
   refine ⟨fun x hx=>?_,us++vs,f1.append g1,fun v hv=>?_,fun j v hv=>?_,fun j hj=>?_⟩
   ·rcases List.mem_cons.1 hx with rfl|hx
    ·exact ⟨hl,ht,hk⟩
    ·exact g0 x hx
   ·rcases abS.1 hv with hv|hv
    ·exact f2 v hv
    ·exact g2 v hv
   ·by_cases hj:j < sz
    ·rw [List.getElem?_append_left (by omega)] at hv;exact f3 j v hv
    ·rw [List.getElem?_append_right (by omega),hlen] at hv;have:=g3 _ v hv;rwa [show o+sz+(j - sz)=o+j by omega] at this
   ·by_cases OU:j < sz
    ·exact f4 j (by omega)
    ·have:=g4 (j - sz) (by simp only [List.length_cons,aa5] at hj; omega);rwa [show o+sz+(j - sz)=o+j by omega] at this
theorem A2 {b sz:Nat}:∀ (n:Nat) {es:List AV} {o:Nat},gl R w b o sz es→gl R w b (o+n * sz) sz (es.drop n)
 |0,es,o,h=>by simpa using h
 |n+1,[],o,h=>by simpa using gl.nil
 |n+1,e :: es,o,h=>by
  cases h with
  |cons hl ht hk hc t=>
   have:=A2 n t;rw [show o+sz+n * sz=o+(n+1) * sz by rw [aa5]; omega] at this;simpa using this
theorem uh {b sz:Nat}:∀ (n:Nat) {es:List AV} {o:Nat},gl R w b o sz es→gl R w b o sz (es.take n)
 |0,es,o,h=>by simpa using gl.nil
 |n+1,[],o,h=>by simpa using gl.nil
 |n+1,e :: es,o,h=>by
  cases h with
  |cons hl ht hk hc t=>simpa using gl.cons hl ht hk hc (uh n t)
end rel
theorem fS {sz n:Nat} {z:AV} (h1:z.cells.length=sz) (h2:z.aY=true) (h3:z.closed=true):jt sz (aaR n z):=fun e he=>by
 rw [List.mem_replicate] at he;rw [he.2];exact ⟨h1,h2,h3⟩
theorem xC {sz:Nat}:∀ {es:List AV} {i:Nat} {v:AV},jt sz es→i < es.length→v.cells.length=sz→aq (aF es i v)=bf (aq es) (i * sz) v.cells
 |[],i,v,_,h,_=>by simp at h
 |e :: es,0,v,h,_,hv=>by
  have h1:=(h e (by simp)).1;simp only [aF,aq,ab4];rw [eO _ 0 _ (by simp; omega)];simp only [List.take_zero,List.nil_append,Nat.zero_add];rw [hv,← h1,List.drop_left]
 |e :: es,i+1,v,h,hi,hv=>by
  have h1:=(h e (by simp)).1;have Kp:jt sz es:=fun x hx=>h x (by simp [hx])
  have ih:=xC (i:=i) (v:=v) Kp (by simpa using hi) hv;have bZ:i < es.length:=by simpa using hi
  have hle:i * sz+sz≤es.length * sz:=by rw [← ab5]; exact abZ _ bZ
  have hl:=dO Kp;simp only [aF,aq];have e1:(i+1) * sz=e.cells.length+i * sz:=by rw [h1,ab5]; omega
  have e2:List.take (e.cells.length+i * sz) e.cells=e.cells:=List.take_of_length_le (by omega);rw [ih,eO _ _ _ (by omega),e1,eO _ _ _ (by simp only [abN]; omega)];rw [List.take_append,e2,abO,List.drop_append,List.drop_of_length_le (by omega:e.cells.length≤e.cells.length+(i * sz+v.cells.length))];simp [Nat.add_sub_cancel_left]
theorem I1 {sz:Nat} {es:List AV} {i:Nat} {v:AV} (h:jt sz es) (h1:v.cells.length=sz) (h2:v.aY=true) (h3:v.closed=true):jt sz (aF es i v):=fun e he=>by
 rw [gn] at he;rcases List.mem_or_eq_of_mem_set he with he|rfl
 ·exact h e he
 ·exact ⟨h1,h2,h3⟩
theorem vh {sz:Nat}:∀ {ps:List (Nat × AV)} {es es':List AV},C9 sz es ps=some es'→jt sz es →
  vc (fun i=>some (i * sz,sz)) (aq es) ps=some (aq es')∧jt sz es'∧es'.length=es.length
 |[],es,es',h,hk=>by simp [C9] at h; subst h; exact ⟨rfl,hk,rfl⟩
 |(i,v) :: ps,es,es',h,hk=>by
  unfold C9 at h;split at h
  ·rename_i hc;simp only [aab] at hc;obtain ⟨⟨⟨hn,hl⟩,hi⟩,De⟩:=hc;have hl':=aaB hl;have uf:=aax hi;obtain ⟨g1,g2,g3⟩:=vh h (I1 hk hl' hn De);refine ⟨?_,g2,by simpa using g3⟩;unfold vc;have hle:Nat.ble (i * sz+sz) (aq es).length=true:=by
    apply Nat.ble_eq_true_of_le;rw [dO hk,← ab5];exact abZ _ uf
   simp only [hn,hl,hle,Bool.and_self,if_true];rw [← xC hk (by omega) hl'];exact g1
  ·cases h
section ops
variable {E:Env} {R:ak} {w:World} {β:Nat→Nat} {s:St} {a:Act} {o:Oper}
def ak.XZ (R:ak) (b:Nat):ak:=⟨fun b' o=>R.I b' o∨b'=b,R.obj⟩
theorem B2 (wf:∀ b o,R.I b o→b < w.heap.size) (x:Obj):Ext R w (R.XZ w.heap.size) (w.alloc x):=
 ⟨fun _ _ h=>.inl h,fun b o h=>cb (heap_alloc_old w x b (wf b o h)) o,fun _ ro h=>⟨ro,h,cF.refl ro⟩,.old fun b hb=>heap_alloc_old w x b hb⟩
theorem bl.XZ (h:bl E R w β s a) (x:Obj):bl E (R.XZ w.heap.size) (w.alloc x) β s a:=
 h.aW (B2 h.g.wf x) rfl (fun b hb=>heap_alloc_old w x b (h.eh hb)) (fun b o hb hi=>by
  rcases hi with hi|hi
  ·exact hi
  ·have:=h.eh hb;omega) (fun b o hi=>by
  rcases hi with hi|hi
  ·have:=h.g.wf b o hi;simp;omega
  ·simp;omega)
theorem KS (h:bl E R w β s a) (x:Obj):Step R w β s.boxes (R.XZ w.heap.size) (w.alloc x) β s.boxes:=
 ⟨B2 h.g.wf x,rfl,rfl,rfl,by simp,fun b hb _=>heap_alloc_old w x b hb,fun _ _ ho=>ho,fun b o hi hb _=>by
  rcases hi with hi|hi
  ·exact hi
  ·omega⟩
theorem pf (z:Array Value):∀ (n:Nat),(((abu (n * z.size)).map fun i=>z[i % z.size]!)).toList=(aaR n z.toList).flatten
 |0=>by simp
 |n+1=>by
  have ih:=pf z n;simp only [Array.toList_map,Array.toList_range] at ih ⊢;rw [aa5,Nat.one_mul,List.range_add,List.map_append,ih,List.replicate_succ',List.flatten_append];congr 1;simp only [List.map_map,List.flatten_cons,List.flatten_nil,List.append_nil];apply List.ext_getElem?;intro i;by_cases hi:i < z.size
  ·simp only [List.getElem?_map,List.getElem?_range hi,Option.map_some,Function.comp_apply];rw [Nat.mul_comm n,Nat.mul_add_mod,Nat.mod_eq_of_lt hi];simp [hi]
  ·rw [abV (by simp; omega),abV (by simp; omega)]
theorem mN {z:AV} {c:Value} (hr:Rel R w z c) (hn:z.aY=true):∀ (n:Nat),aK R w (aq (aaR n z)) (aaR n c.cells.toList).flatten∧∀ v∈(aaR n c.cells.toList).flatten,v.oneCell'=true
 |0=>by simp [aq]; exact .nil
 |n+1=>by
  obtain ⟨c1,c2⟩:=Rel.cells hr hn;obtain ⟨h1,h2⟩:=mN hr hn n;refine ⟨?_,fun v hv=>?_⟩
  ·simpa [ab2,aq] using c1.append h1
  ·simp only [ab2,List.flatten_cons,abS] at hv;rcases hv with hv|hv
   ·exact c2 v hv
   ·exact h2 v hv
theorem ui:∀ {ps:List (Nat × AV)} {us:List Value},aK R w (ps.map (·.2)) us→aK R w ((AQ ps).map (·.2)) us
 |[],_,h=>h
 |(_,_) :: _,_,.cons h t=>.cons h.gY (ui t)
theorem uj:∀ (ps:List (Nat × AV)),(AQ ps).map (·.1)=ps.map (·.1)
 |[]=>rfl
 |(i,v) :: l=>by simp [AQ,uj l]
theorem iH (h:bl E R w β s a) (t:TypeId) (len:Nat) (parts:Array (Nat × Operand)) (ho:o.op=.buildSlice t len parts) {v:AV} (hv:cg E s t len parts.toList=some v) :
  ∃ es esz us elem,v=.list .full esz es∧(execOp a.eval o).run E.P w=.ok (.value (.slice (some ⟨w.heap.size,0,none⟩) len len)) (w.alloc (.cells ⟨us⟩ elem))∧jt esz es∧es.length=len∧aK R w (aq es) us∧(∀ x∈us,x.oneCell'=true)∧∃ i ag oZ z,E.ti t=some i∧i.k=.sl elem esz ag oZ z:=by
 unfold cg at hv;split at hv
 ·rename_i i ps hi FB;split at hv
  ·rename_i elem esz ag oZ z hk;split at hv
   ·rename_i hc;simp only [aab] at hc;obtain ⟨⟨⟨⟨I2,YK⟩,YL⟩,hz4⟩,hz5⟩:=hc;have I2:=aaB I2;have YK:=aax YK;have YL:=aax YL;split at hv
    ·rename_i es Kp;cases hv;obtain ⟨hJ,u,e1,e2,e3,e4,e5,e6⟩:=cu E hi;rw [hk] at e5;obtain ⟨ie,ue,rfl,f1,f2,f3,f4,f5,f6⟩:=ee e5;obtain ⟨zc,tR,Fa⟩:=dj f6;have TF:=Fa R w;obtain ⟨c1,c2⟩:=Rel.cells TF hz4;have ql:zc.cells.size=esz:=by rw [← I2,c1.length]; simp
     obtain ⟨p1,p2⟩:=wF h FB;obtain ⟨z1,z2⟩:=mN TF hz4 len;obtain ⟨g1,g2,g3⟩:=vh Kp (fS I2 hz4 hz5);obtain ⟨us,u1,u2,u3⟩:=pd (R:=R) (w:=w) _ (ui p1) ((uj ps).trans p2) z1 z2 g1;have UO:(parts.map fun (x:Nat × Operand)=>(x.1,a.eval x.2)).toList=parts.toList.map fun x=>(x.1,a.eval x.2):=by simp
     have xD:((abu (len * esz)).map fun i=>zc.cells[i % zc.cells.size]!)=⟨(aaR len zc.cells.toList).flatten⟩:=by
      apply abq;rw [← ql];exact pf zc.cells len
     have hlen:es.length=len:=by simpa using g3
     have bE:(aaY t len (parts.map fun (x:Nat × Operand)=>(x.1,a.eval x.2))).run E.P w=.ok (.slice (some ⟨w.heap.size,0,none⟩) len len) (w.alloc (.cells ⟨us⟩ elem)):=by
      have I0:¬ len * esz > 2 ^ 24:=by omega
      by_cases h0:len * esz=0
      ·have uk:len=0:=by
        rcases Nat.mul_eq_zero.1 h0 with h0|h0 <;> omega
       subst uk;have u1':abP (fun i=>some (i * esz,esz)) #[] (parts.toList.map fun x=>(x.1,a.eval x.2))=some ⟨us⟩:=by simpa using u1
       simp only [aaY,aac,run_underlying e2,aaa,run_sizeOf w f1,f2];simp only [ab4,gt_iff_lt,Nat.not_lt_zero,if_false,if_true,aac,aaC,aaa,UO];have Df:∀ f:Nat→Value,Array.map f (abu 0)=#[]:=fun f=>by simp
       simp only [Df,u1',newRow,aac,run_newObj,aaa,aaC];rfl
      ·simp only [aaY,aac,run_underlying e2,aaa,run_sizeOf w f1,f2];rw [if_neg I0,if_neg h0];simp only [aac,aaC,aaa,gM w f1 tR,UO,xD,u1,newRow,run_newObj];rfl
     exact ⟨es,esz,us,elem,rfl,by simp only [execOp,ho,aac,bE,aaa,aaC],g2,hlen,u2,u3,i,ag,oZ,_,hi,hk⟩
    ·cases hv
   ·cases hv
  ·cases hv
 ·cases hv
theorem vX (h:bl E R w β s a) (t:TypeId) (len:Nat) (parts:Array (Nat × Operand)) (ho:o.op=.buildSlice t len parts) {cs:List AV} (hv:j3 E s t len parts.toList=some cs) :
  ∃ esz us elem,(execOp a.eval o).run E.P w=.ok (.value (.slice (some ⟨w.heap.size,0,none⟩) len len)) (w.alloc (.cells ⟨us⟩ elem))∧aK R w cs us∧(∀ x∈us,x.oneCell'=true)∧∃ i ag oZ z,E.ti t=some i∧i.k=.sl elem esz ag oZ z:=by
 unfold j3 at hv;split at hv
 ·rename_i i ps hi FB;split at hv
  ·rename_i elem esz ag oZ z hk;split at hv
   ·rename_i hc;simp only [aab] at hc;obtain ⟨⟨⟨I2,YK⟩,YL⟩,hz4⟩:=hc;have I2:=aaB I2;have YK:=aax YK;have YL:=aax YL
    ·have g1:=hv;obtain ⟨hJ,u,e1,e2,e3,e4,e5,e6⟩:=cu E hi;rw [hk] at e5;obtain ⟨ie,ue,rfl,f1,f2,f3,f4,f5,f6⟩:=ee e5;obtain ⟨zc,tR,Fa⟩:=dj f6;have TF:=Fa R w;obtain ⟨c1,c2⟩:=Rel.cells TF hz4;have ql:zc.cells.size=esz:=by rw [← I2,c1.length]; simp
     obtain ⟨p1,p2⟩:=wF h FB;obtain ⟨z1,z2⟩:=mN TF hz4 len;obtain ⟨us,u1,u2,u3⟩:=pd (R:=R) (w:=w) _ (ui p1) ((uj ps).trans p2) z1 z2 g1;have UO:(parts.map fun (x:Nat × Operand)=>(x.1,a.eval x.2)).toList=parts.toList.map fun x=>(x.1,a.eval x.2):=by simp
     have xD:((abu (len * esz)).map fun i=>zc.cells[i % zc.cells.size]!)=⟨(aaR len zc.cells.toList).flatten⟩:=by
      apply abq;rw [← ql];exact pf zc.cells len
     have bE:(aaY t len (parts.map fun (x:Nat × Operand)=>(x.1,a.eval x.2))).run E.P w=.ok (.slice (some ⟨w.heap.size,0,none⟩) len len) (w.alloc (.cells ⟨us⟩ elem)):=by
      have I0:¬ len * esz > 2 ^ 24:=by omega
      by_cases h0:len * esz=0
      ·have uk:len=0:=by
        rcases Nat.mul_eq_zero.1 h0 with h0|h0 <;> omega
       subst uk;have u1':abP (fun i=>some (i * esz,esz)) #[] (parts.toList.map fun x=>(x.1,a.eval x.2))=some ⟨us⟩:=by simpa using u1
       simp only [aaY,aac,run_underlying e2,aaa,run_sizeOf w f1,f2];simp only [ab4,gt_iff_lt,Nat.not_lt_zero,if_false,if_true,aac,aaC,aaa,UO];have Df:∀ f:Nat→Value,Array.map f (abu 0)=#[]:=fun f=>by simp
       simp only [Df,u1',newRow,aac,run_newObj,aaa,aaC];rfl
      ·simp only [aaY,aac,run_underlying e2,aaa,run_sizeOf w f1,f2];rw [if_neg I0,if_neg h0];simp only [aac,aaC,aaa,gM w f1 tR,UO,xD,u1,newRow,run_newObj];rfl
     exact ⟨esz,us,elem,by simp only [execOp,ho,aac,bE,aaa,aaC],u2,u3,i,ag,oZ,_,hi,hk⟩
   ·cases hv
  ·cases hv
 ·cases hv
theorem vY (h:bl E R w β s a) (t:TypeId) (len:Nat) (parts:Array (Nat × Operand)) (ho:o.op=.buildSlice t len parts) {v:AV} (hv:cg E s t len parts.toList=some v) :
  cm E R w β s a o (s.put o.dst (.v v)):=by
 obtain ⟨es,esz,us,elem,rfl,bE,g2,hlen,u2,u3,_⟩:=iH h t len parts ho hv;have e:=B2 (R:=R) (w:=w) h.g.wf (.cells ⟨us⟩ elem);refine ⟨_,.slice (some ⟨w.heap.size,0,none⟩) len len,_,R.XZ w.heap.size,β,bE,.inl rfl,(h.XZ (.cells ⟨us⟩ elem)).put o.dst ?_,by rw [a6]; exact KS h _⟩;refine Rel.list (mM g2 (dR.make (u2.mono e) u3 (fun j x hx=>?_) (fun j _=>.inr rfl))) hlen.symm (Nat.le_refl _) rfl;rw [jw (heap_alloc_new w _)];simpa using hx
theorem ul (h:bl E R w β s a) (t:TypeId) (len:Nat) (parts:Array (Nat × Operand)) (ho:o.op=.buildSlice t len parts) {cs:List AV} (hv:j3 E s t len parts.toList=some cs) {i:TI} (hi:E.ti t=some i) {el:TypeId} {esz eb:Nat} {ag:Bool} {z:Option AV} (hk:i.k=.sl el esz ag eb z) :
  cm E R w β s a o ((s.dQ (.row cs el)).put o.dst (.v (.jZ s.G.length 0 esz len len))):=by
 obtain ⟨UP,us,elem,bE,u2,u3,i',ag',by',z',uf,iG⟩:=vX h t len parts ho hv;rw [hi] at uf;cases uf;rw [hk] at iG;cases iG;have e:=gS (R:=R) (w:=w) h.g.wf (.cells ⟨us⟩ el) (.ca w.heap.size);have iE:gK (R.add (.ca w.heap.size)) (w.alloc (.cells ⟨us⟩ el)) (.row cs el) (.ca w.heap.size):=
  ⟨_,heap_alloc_new w _,u2.mono e,u3,fun o' hi=>by have:=h.g.wf _ _ hi; omega⟩
 exact ⟨_,_,_,R.add (.ca w.heap.size),β,bE,.inl rfl,(h.mg _ _ _ (by exact fun _ h=>h) iE).put o.dst (x:=.v (.jZ s.G.length 0 esz len len)) (Rel.jZ (gq h _) (Nat.le_refl _)),by rw [a6]; exact cZ h _ _ (by exact fun _ h=>h)⟩
theorem um (h:bl E R w β s a) (t:TypeId) (len:Nat) (parts:Array (Nat × Operand)) (ho:o.op=.buildSlice t len parts) {k:LK} {esz:Nat} {es:List AV} (hv:cg E s t len parts.toList=some (.list k esz es)) {i:TI} (hi:E.ti t=some i) {el:TypeId} {bR eb:Nat} {ag:Bool} {z:Option AV} (hk:i.k=.sl el bR ag eb z) :
  cm E R w β s a o ((s.dQ (.row (aq es) el)).put o.dst (.v (.jZ s.G.length 0 esz len len))):=by
 obtain ⟨es',UP,us,elem,YM,bE,g2,hlen,u2,u3,i',ag',by',z',uf,iG⟩:=iH h t len parts ho hv;cases YM;rw [hi] at uf;cases uf;rw [hk] at iG;cases iG;have e:=gS (R:=R) (w:=w) h.g.wf (.cells ⟨us⟩ el) (.ca w.heap.size);have iE:gK (R.add (.ca w.heap.size)) (w.alloc (.cells ⟨us⟩ el)) (.row (aq es) el) (.ca w.heap.size):=
  ⟨_,heap_alloc_new w _,u2.mono e,u3,fun o' hi=>by have:=h.g.wf _ _ hi; omega⟩
 exact ⟨_,_,_,R.add (.ca w.heap.size),β,bE,.inl rfl,(h.mg _ _ _ (by exact fun _ h=>h) iE).put o.dst (x:=.v (.jZ s.G.length 0 esz len len)) (Rel.jZ (gq h _) (Nat.le_refl _)),by rw [a6]; exact cZ h _ _ (by exact fun _ h=>h)⟩
end ops
end Go.Am
