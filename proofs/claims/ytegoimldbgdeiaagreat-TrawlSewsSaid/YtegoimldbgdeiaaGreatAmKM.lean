/- The abstract machine: what a call's arguments read as. -/
import Derived.Test.YtegoimldbgdeiaaGreatAmKL
import GoSem.ClaimJoined
import Derived.Below
import Derived.ChangeSame
import Derived.Carry
import Derived.RowKit
import Derived.FnData
import Derived.Lib.Builder
import Derived.Lib.UnsafeStr
import Derived.IntWalk
import Derived.Shelf.Spec.SlicesGrow
import Derived.Shelf.Slices.Clone
import Derived.Shelf.SlicesE.Delete
import Derived.Shelf.SlLaysE0
import Derived.Deep.MidRow
import Derived.Shelf.SlicesE.Clone
set_option linter.all false
open Array renaming length_toList→aaM
open Bool renaming and_eq_true→aap
open Go.Builtin renaming zeroCells→aal, clear_→abg
open Go.DataW renaming trod→aaL, TrodAll→aa0
open Go.Field renaming offset→abl
open Go.Value renaming oneCell'→aaX, okWide→aaY, int→abq
open List renaming map_cons→aas, getElem?_eq_getElem→aav, map→aax, length_take→aaI, length_drop→aaK, length_append→aaO, getElem?_range→aaT, mem_cons→aaU, range→aaV, take_of_length_le→aaW, drop_zero→aa3, getElem?_map→aa6, getElem?_eq_some_iff→aa7, drop_eq_getElem_cons→aa8, take_length→aa9, mem_append→abb, length_map→abc, drop_eq_nil_of_le→abe, take_take→abh, mem_of_mem_drop→abi, mem_of_mem_take→abj
open Nat renaming eq_of_beq_eq_true→aao, le_refl→aaq, zero_add→aaN, zero_le→aaQ, beq→aaR, zero_mul→aaS, mul_le_mul_right→aaZ, ble_eq_true_of_le→aa1, add_mul→aa5, min_eq_left→abd, le_of_ble_eq_true→abf, add_assoc→abk, sub_zero→abn
open Option renaming bind_some→aba
open Prod renaming fst→aa4
open Sum renaming elim_inl→aa2
namespace Go.Am
open Go
def tZ (w:World):ai:=⟨fun b _=>b < w.heap.size,[]⟩
mutual
def aP.wf:(p:aP)→p.T→Prop
 |.int k,(n:Int)=>k.min≤n∧n≤k.max
 |.bool,_=>True
 |.str,(s:List UInt8)=>s.length≤maxLen
 |.agg ps,x=>ps.wf x
 |.bP ps,x=>ps.wf x
 |.list _ p,(xs:List p.T)=>xs.length≤maxLen∧∀ x∈xs,p.wf x
 |.own _ _ p,(xs:List p.T)=>xs.length≤maxLen∧∀ x∈xs,p.wf x
 |.aX _ _ p,(x:Nat × List p.T)=>x.2.length≤maxLen∧∀ y∈x.2,p.wf y
 |.eX _ _,_=>True
 |.oD _,_=>True
 |.two _ _,_=>True
def aQ.wf:(ps:aQ)→ps.T→Prop
 |.nil,_=>True
 |.cons p .nil,x=>p.wf x
 |.cons p (.cons q ps),x=>p.wf x.1∧(aQ.cons q ps).wf x.2
end
def ng:List aP→aQ
 |[]=>.nil
 |p :: l=>.cons p (ng l)
def Li {β:Type} (g:β→Option (List aP)):List β→Option (List aP)
 |[]=>some []
 |x :: l=>match g x,Li g l with
  |some a,some b=>some (a++b)
  |_,_=>none
def vn {β:Type} (off len:β→Nat):Nat→List β→Option Nat
 |o,[]=>some o
 |o,x :: l=>bif aaR (off x) o then vn off len (o+len x) l else none
def isSome (n:Nat):Option Nat→Bool
 |some m=>aaR m n
 |none=>false
def vo (ag:Bool) (ps:List aP):Option aP:=match ag,ps with
 |true,ps=>some (.agg (ng ps))
 |false,[p]=>some p
 |_,_=>none
def Lj (P:Program):Nat→TypeId→Option (List aP)
 |0,_=>none
 |n+1,t=>match P.underlying t with
  |some .bool=>some [.bool]
  |some (.int k)=>some [.int k]
  |some .string=>some [.str]
  |some (.slice e)=>match Lj P n e,P.underlying e with
   |some ps,some u=>match vo (Go.Am.lC u) ps with
    |some pe=>bif Nat.blt 0 (P.cellsOf e) then some [.list (P.cellsOf e) pe] else none
    |none=>none
   |_,_=>none
  |some (.struct fs)=>bif isSome (P.cellsOf t) (vn abl (fun f=>P.cellsOf f.type) 0 fs.toList) then Li (fun f=>Lj P n f.type) fs.toList else none
  |some (.array m e)=>bif isSome (P.cellsOf t) (vn (fun i=>i * P.cellsOf e) (fun _=>P.cellsOf e) 0 (aaV m)) then Li (fun _=>Lj P n e) (aaV m) else none
  |_=>none
def acS (a:AV):Prop:=a.aR=true∧a.cells=[a]∧a.closed=true
def ua:List aP→List AV→Prop
 |[],[]=>True
 |p :: ps,a :: oo=>p.fits a=true∧(p.wf (p.bw a)∧acS a)∧ua ps oo
 |_,_=>False
theorem ua.append:∀ {ps qs:List aP} {oo bs:List AV},ua ps oo→ua qs bs→ua (ps++qs) (oo++bs)
 |[],_,[],_,_,h=>h
 |_ :: _,_,_ :: _,_,k,h=>⟨k.1,k.2.1,ua.append k.2.2 h⟩
 |[],_,_ :: _,_,h,_=>h.elim
 |_ :: _,_,[],_,h,_=>h.elim
theorem ua.mk:∀ {ps:List aP} {oo:List AV},ua ps oo→(ng ps).fits oo=true∧(ng ps).wf ((ng ps).bw oo)
 |[],[],_=>⟨rfl,trivial⟩
 |[p],[a],h=>⟨by
   change (p.fits a&&(List.isEmpty ([]:List AV)))=true;rw [h.1];rfl,h.2.1.1⟩
 |p :: q :: ps,a :: oo,h=>by
  obtain ⟨h1,h2⟩:=ua.mk (ps:=q :: ps) h.2.2;refine ⟨?_,h.2.1.1,h2⟩;change (p.fits a&&(ng (q :: ps)).fits oo)=true;rw [h.1,h1];rfl
 |[],_ :: _,h=>h.elim
 |_ :: _,[],h=>h.elim
 |[_],_ :: _ :: _,h=>h.2.2.elim
theorem FY {ag:Bool} {ps:List aP} {pe:aP} (h:vo ag ps=some pe) {oo:List AV} (hf:ua ps oo) :
  ∃ e,(if ag then e=.agg oo else oo=[e])∧pe.fits e=true∧pe.wf (pe.bw e):=by
 unfold vo at h;split at h
 ·cases h;obtain ⟨h1,h2⟩:=hf.mk;exact ⟨.agg oo,rfl,h1,h2⟩
 ·rename_i p;cases h
  match oo,hf with
  |[a],hf=>exact ⟨a,rfl,hf.1,hf.2.1.1⟩
  |[],hf=>exact hf.elim
  |_ :: _ :: _,hf=>exact hf.2.2.elim
 ·cases h
theorem JA:∀ {ps:List aP} {oo:List AV},ua ps oo→∀ a∈oo,a.aR=true∧a.cells=[a]∧a.closed=true
 |[],[],_,a,ha=>by simp at ha
 |_ :: _,b :: oo,hf,a,ha=>by
  rcases aaU.1 ha with rfl|ha
  ·exact hf.2.1.2
  ·exact JA hf.2.2 a ha
 |[],_ :: _,h,_,_=>h.elim
 |_ :: _,[],h,_,_=>h.elim
theorem JB {pe:aP}:∀ {es:List AV},(∀ x∈es,pe.fits x=true∧pe.wf (pe.bw x))→allFit pe.fits es=true∧∀ x∈es.map pe.bw,pe.wf x
 |[],_=>⟨rfl,by simp⟩
 |a :: es,h=>by
  obtain ⟨h1,h2⟩:=JB (es:=es) fun x hx=>h x (by simp [hx])
  refine ⟨by simp only [allFit,aap]; exact ⟨(h a (by simp)).1,h1⟩,fun x hx=>?_⟩;rcases aaU.1 hx with rfl|hx
  ·exact (h a (by simp)).2
  ·exact h2 x hx
section read
variable {H:Type} {enc:TypeId × Value→H} {P:Program} {w:World} {R:ai} {base:Nat} {spare:Nat→Bool} {held:Bool}
theorem nh {α β:Type} {f:α→Option β} {x:α} {l:List α} {r:List β} (h:(x :: l).mapM f=some r):∃ y ys,f x=some y∧l.mapM f=some ys∧r=y :: ys:=by
 rw [List.mapM_cons] at h;cases hx:f x with
 |none=>rw [hx] at h; cases h
 |some y=>
  rw [hx] at h;cases hl:l.mapM f with
  |none=>rw [hl] at h; cases h
  |some ys=>rw [hl] at h; cases h; exact ⟨y,ys,rfl,rfl,rfl⟩
theorem Bb {β:Type} {off len:β→Nat} {g:β→Option (List aP)} {cs:List Value} {f:β→Option (DataW H × List MemPlace)}
  (hf:∀ x ps y,g x=some ps→f x=some y→∃ oo,aL R w oo ((cs.drop (off x)).take (len x))∧ua ps oo∧∀ v∈(cs.drop (off x)).take (len x),v.oneCell'=true) :
  ∀ {L:List β} {o m:Nat} {ps:List aP} {ys:List (DataW H × List MemPlace)},vn off len o L=some m→Li g L=some ps→L.mapM f=some ys →
   o≤m∧∃ oo,aL R w oo ((cs.drop o).take (m - o))∧ua ps oo∧∀ v∈(cs.drop o).take (m - o),v.oneCell'=true
 |[],o,m,ps,ys,ht,hp,_=>by
  simp only [vn] at ht;simp only [Li] at hp;cases ht; cases hp;exact ⟨aaq _,[],by simpa using aL.nil,trivial,by simp⟩
 |x :: L,o,m,ps,ys,ht,hp,hm=>by
  unfold vn at ht;cases hb:aaR (off x) o with
  |false=>rw [hb] at ht; cases ht
  |true=>
   rw [hb] at ht;have hb:=aao hb;unfold Li at hp;split at hp
   ·rename_i pa pb h1 h2;cases hp;obtain ⟨y,Kl,k1,k2,rfl⟩:=nh hm;obtain ⟨oo,q1,q2,q3⟩:=hf x pa y h1 k1;obtain ⟨hle,bs,r1,r2,r3⟩:=Bb hf (show vn off len (o+len x) L=some m from ht) h2 k2;have e:(cs.drop o).take (m - o)=(cs.drop (off x)).take (len x)++(cs.drop (o+len x)).take (m - (o+len x)):=by
     rw [hb,show m - o=len x+(m - (o+len x)) by omega,List.take_add,List.drop_drop]
    rw [e];refine ⟨by omega,oo++bs,q1.append r1,q2.append r2,fun v hv=>?_⟩;rcases abb.1 hv with hv|hv
    ·exact q3 v hv
    ·exact r3 v hv
   ·cases hp
theorem px {α β:Type} {f:α→Option β}:∀ {l:List α} {r:List β},l.mapM f=some r→∀ (i:Nat) (x:α),l[i]?=some x→∃ y,r[i]?=some y∧f x=some y
 |[],r,_,i,x,hx=>by simp at hx
 |a :: l,r,h,i,x,hx=>by
  obtain ⟨y,ys,h1,h2,rfl⟩:=nh h;cases i with
  |zero=>simp at hx; subst hx; exact ⟨y,by simp,h1⟩
  |succ i=>obtain ⟨z,h3,h4⟩:=px h2 i x (by simpa using hx); exact ⟨z,by simpa using h3,h4⟩
theorem mapM_length {α β:Type} {f:α→Option β}:∀ {l:List α} {r:List β},l.mapM f=some r→r.length=l.length
 |[],r,h=>by simp at h; subst h; rfl
 |a :: l,r,h=>by
  obtain ⟨y,ys,h1,h2,rfl⟩:=nh h;simp [mapM_length h2]
theorem Qe {a:Addr} {v:Value} (h:w.cell? a=some v):a.block < w.heap.size:=by
 unfold World.cell? at h;split at h
 ·rename_i hb; exact bz hb
 ·cases h
theorem CY {e:TypeId} {ps:List aP} {pe:aP} {ag:Bool} {vp:Nat} (hp:∀ (cs:List Value) (y:DataW H × List MemPlace),aaL enc P w base spare held vp e cs=some y→∃ oo,aL (tZ w) w oo cs∧ua ps oo∧∀ v∈cs,v.oneCell'=true) (he:vo ag ps=some pe) {b off len:Nat} {r:List (DataW H × List MemPlace)}
  (h:(aaV len).mapM (fun i=>(w.cells? base ((⟨b,off,none⟩:Addr).add (i * P.cellsOf e)) (P.cellsOf e)).bind (aaL enc P w base spare held vp e))=some r) :
  ∀ (m i:Nat),i+m=len→∃ es,iW (tZ w) w b (off+i * P.cellsOf e) (P.cellsOf e) es∧es.length=m∧∀ x∈es,pe.fits x=true∧pe.wf (pe.bw x)
 |0,i,_=>⟨[],.nil,rfl,by simp⟩
 |m+1,i,hi=>by
  obtain ⟨es,h1,h2,h3⟩:=CY hp he h m (i+1) (by omega);obtain ⟨y,_,hy⟩:=px h i i (by rw [aaT (by omega)]);obtain ⟨cs,hc,hy⟩:=bind_some hy;obtain ⟨oo,q1,q2,q3⟩:=hp _ _ hy;obtain ⟨x,hx,f1,f2⟩:=FY he q2;have oJ:w.cells? base ((⟨b,off,none⟩:Addr).add (i * P.cellsOf e)) (P.cellsOf e)=some cs:=hc;unfold World.cells? at oJ;split at oJ
  ·have hlen:=mapM_length oJ;rw [List.length_range] at hlen;have iz:x.cells=oo∧x.aR=true∧x.closed=true:=by
    have va:=JA q2;cases ag with
    |true=>
     simp only [if_true] at hx;subst hx;refine ⟨rfl,rfl,?_⟩;show aF oo=true;clear h1 h2 h3 q1 q2 f1 f2
     induction oo with
     |nil=>rfl
     |cons a oo ih=>simp only [aF,aap]; exact ⟨(va a (by simp)).2.2,ih (fun z hz=>va z (by simp [hz]))⟩
    |false=>
     simp only [Bool.false_eq_true,if_false] at hx;subst hx;obtain ⟨k1,k2,k3⟩:=va x (by simp);exact ⟨k2,k1,k3⟩
   have mf:∀ j v,cs[j]?=some v→w.cell? ⟨b,off+i * P.cellsOf e+j,none⟩=some v:=fun j v hv=>by
    have hj:j < P.cellsOf e:=by have:=(aa7.1 hv).1; omega
    obtain ⟨v',k1,k2⟩:=px oJ j j (by rw [aaT hj]);rw [hv] at k1;cases k1;rw [b9,b9] at k2;exact k2
   refine ⟨x :: es,.cons ?_ iz.2.1 iz.2.2 ?_ ?_,by simp [h2],fun z hz=>?_⟩
   ·rw [iz.1,q1.length,hlen]
   ·rw [iz.1];refine fN.make q1 q3 mf (fun j hj=>?_);have GD:j < cs.length:=by rw [← q1.length]; exact hj
    exact Qe (mf j cs[j] (aav GD))
   ·rw [show off+i * P.cellsOf e+P.cellsOf e=off+(i+1) * P.cellsOf e by rw [aa5]; omega];exact h1
   ·rcases aaU.1 hz with rfl|hz
    ·exact ⟨f1,f2⟩
    ·exact h3 z hz
  ·cases oJ
theorem vq (yl:∀ b,spare b=true):∀ (n:Nat) {t:TypeId} {ps:List aP},Lj P n t=some ps→∀ {vp:Nat} {cs:List Value} {y:DataW H × List MemPlace},aaL enc P w base spare held vp t cs=some y →
  ∃ oo,aL (tZ w) w oo cs∧ua ps oo∧∀ v∈cs,v.oneCell'=true
 |0,_,_,h,_,_,_,_=>by cases h
 |n+1,t,ps,h,0,_,_,hy=>by cases hy
 |n+1,t,ps,h,vp+1,cs,y,hy=>by
  unfold Lj at h;unfold aaL at hy;split at h
  ·rename_i hu;cases h;rw [hu] at hy;cases cs with
   |nil=>cases hy
   |cons v l=>
    cases l with
    |cons v2 l=>(cases v <;> first | (cases hy; done) | (rename_i a; cases a <;> cases hy; done) | (rename_i a b; cases a <;> cases hy; done) | (rename_i a b c; cases a <;> first | (cases hy; done) | (cases b <;> first | (cases hy; done) | (cases c <;> cases hy))))
    |nil=>
     cases v with
     |bool b=>exact ⟨[.bool b],.one (.bool b),⟨rfl,⟨trivial,rfl,rfl,rfl⟩,trivial⟩,by simp [aaX]⟩
     |pointer a=>cases a <;> cases hy
     |slice a b c=>cases a <;> first | (cases hy; done) | (cases b <;> first | (cases hy; done) | (cases c <;> cases hy))
     |map a=>cases a <;> cases hy
     |chan a=>cases a <;> cases hy
     |_=>cases hy
  ·rename_i k hu;cases h;rw [hu] at hy;cases cs with
   |nil=>cases hy
   |cons v l=>
    cases l with
    |cons v2 l=>(cases v <;> first | (cases hy; done) | (rename_i a; cases a <;> cases hy; done) | (rename_i a b; cases a <;> cases hy; done) | (rename_i a b c; cases a <;> first | (cases hy; done) | (cases b <;> first | (cases hy; done) | (cases c <;> cases hy))))
    |nil=>
     cases v with
     |int k' i=>
      have hy:(if k'=k∧(Lit.int k i).wf=true then some (.lit (.int k i),[]) else none)=some y:=hy;split at hy
      ·rename_i hc;obtain ⟨rfl,hw⟩:=hc;exact ⟨[.int k' i],.one (.int k' i),⟨decide_eq_true rfl,⟨by have h:=hw; simp [Lit.wf] at h; exact h,rfl,rfl,rfl⟩,trivial⟩,by simp [aaX]⟩
      ·cases hy
     |pointer a=>cases a <;> cases hy
     |slice a b c=>cases a <;> first | (cases hy; done) | (cases b <;> first | (cases hy; done) | (cases c <;> cases hy))
     |map a=>cases a <;> cases hy
     |chan a=>cases a <;> cases hy
     |_=>cases hy
  ·rename_i hu;cases h;rw [hu] at hy;cases cs with
   |nil=>cases hy
   |cons v l=>
    cases l with
    |cons v2 l=>(cases v <;> first | (cases hy; done) | (rename_i a; cases a <;> cases hy; done) | (rename_i a b; cases a <;> cases hy; done) | (rename_i a b c; cases a <;> first | (cases hy; done) | (cases b <;> first | (cases hy; done) | (cases c <;> cases hy))))
    |nil=>
     cases v with
     |string s=>
      have hy:(if s.size≤maxLen then some (.lit (.string s.data.toList),[]) else none)=some y:=hy;split at hy
      ·rename_i hc;exact ⟨[.str s.data.toList],.one (.str s.data.toList),⟨rfl,⟨by simpa [aP.wf,aP.bw,AV.TO] using hc,rfl,rfl,rfl⟩,trivial⟩,by simp [aaX]⟩
      ·cases hy
     |pointer a=>cases a <;> cases hy
     |slice a b c=>cases a <;> first | (cases hy; done) | (cases b <;> first | (cases hy; done) | (cases c <;> cases hy))
     |map a=>cases a <;> cases hy
     |chan a=>cases a <;> cases hy
     |_=>cases hy
  ·rename_i e hu;rw [hu] at hy;split at h
   ·rename_i YU u h1 h2;split at h
    ·rename_i pe h3;obtain ⟨hz,h⟩:=bj h;cases h;have hz:=abf hz;cases cs with
     |nil=>cases hy
     |cons v l=>
      cases l with
      |cons v2 l=>(cases v <;> first | (cases hy; done) | (rename_i a; cases a <;> cases hy; done) | (rename_i a b; cases a <;> cases hy; done) | (rename_i a b c; cases a <;> first | (cases hy; done) | (cases b <;> first | (cases hy; done) | (cases c <;> cases hy))))
      |nil=>
       cases v with
       |slice a len cap=>
        cases a with
        |none=>
         have hz:len=0∧cap=0:=by
          cases len with
          |zero=>cases cap with
           |zero=>exact ⟨rfl,rfl⟩
           |succ _=>cases hy
          |succ _=>cases hy
         obtain ⟨rfl,rfl⟩:=hz;exact ⟨[.list .gQ (P.cellsOf e) []],.one .jN,⟨by simp [aP.fits,allFit],⟨⟨aaQ _,fun x hx=>by change x∈([]:List pe.T) at hx; cases hx⟩,rfl,rfl,rfl⟩,trivial⟩,by simp [aaX]⟩
        |some a=>
         have hy:(if base≤a.block∧len≤cap∧cap≤maxLen then
          ((aaV len).mapM (fun i=>(w.cells? base (a.add (i * P.cellsOf e)) (P.cellsOf e)).bind (aaL enc P w base spare held vp e))).bind fun JC=>
           (if spare a.block then (aaV (cap - len)).mapM (fun j=>(w.cells? base (a.add ((len+j) * P.cellsOf e)) (P.cellsOf e)).bind (aaL enc P w base spare held vp e)) else some []).map fun rest=>
            (DataW.slice (JC.map (·.1)) (rest.map (·.1)),MemPlace.row a ((JC.length+rest.length) * P.cellsOf e)++(JC++rest).flatMap (·.2))
          else none)=some y:=hy
         split at hy
         ·rename_i hc;obtain ⟨JC,k1,hy⟩:=bind_some hy;rw [if_pos (yl _)] at hy;by_cases fj:cap=0
          ·subst fj;have wj:len=0:=Nat.le_zero.1 hc.2.1;subst wj;exact ⟨[.list .gQ (P.cellsOf e) []],.one .oG,⟨by simp [aP.fits,allFit],⟨⟨aaQ _,fun x hx=>by change x∈([]:List pe.T) at hx; cases hx⟩,rfl,rfl,rfl⟩,trivial⟩,by simp [aaX]⟩
          ·have ND:a.spot=none:=by
            have UQ:∃ y,(w.cells? base (a.add (0 * P.cellsOf e)) (P.cellsOf e)).bind (aaL enc P w base spare held vp e)=some y:=by
             by_cases wj:len=0
             ·subst wj;cases hr:(aaV (cap - 0)).mapM (fun j=>(w.cells? base (a.add ((0+j) * P.cellsOf e)) (P.cellsOf e)).bind (aaL enc P w base spare held vp e)) with
              |none=>rw [hr] at hy; cases hy
              |some r=>
               obtain ⟨z,_,hz⟩:=px hr 0 0 (by rw [aaT (by omega)]);exact ⟨z,hz⟩
             ·obtain ⟨z,_,hz⟩:=px k1 0 0 (by rw [aaT (by omega)]);exact ⟨z,hz⟩
            obtain ⟨z,hz'⟩:=UQ;obtain ⟨cs,sQ,_⟩:=bind_some hz';unfold World.cells? at sQ;split at sQ
            ·obtain ⟨v,_,hv⟩:=px sQ 0 0 (by rw [aaT (by omega)]);rw [aaS] at hv;unfold World.cell? at hv;split at hv
             ·split at hv
              ·cases hv
              ·rename_i hs;simpa [Addr.add] using hs
             ·cases hv
            ·cases sQ
           obtain ⟨b,off,spot⟩:=a;have ND:spot=none:=ND;subst ND;obtain ⟨es,q1,q2,q3⟩:=CY (fun cs y hy=>vq yl n h1 hy) h3 k1 len 0 (by omega);rw [aaS,Nat.add_zero] at q1;obtain ⟨f1,f2⟩:=JB q3;refine ⟨[.list .gQ (P.cellsOf e) es],.one (.list q1 q2.symm hc.2.1 trivial),⟨?_,⟨⟨?_,f2⟩,rfl,rfl,rfl⟩,trivial⟩,by simp [aaX]⟩
           ·simp only [aP.fits,aap,Bool.or_eq_true];exact ⟨.inl (Nat.beq_refl _),f1⟩
           ·have:es.length≤maxLen:=by rw [q2]; omega
            show (es.map pe.bw).length≤maxLen;rw [abc];exact this
         ·cases hy
       |pointer a=>cases a <;> cases hy
       |map a=>cases a <;> cases hy
       |chan a=>cases a <;> cases hy
       |_=>cases hy
    ·cases h
   ·cases h
  ·rename_i fs hu;rw [hu] at hy;have hy:(if cs.length=P.cellsOf t then (fs.toList.mapM fun f=>aaL enc P w base spare held vp f.type ((cs.drop f.offset).take (P.cellsOf f.type))).map fun xs=>(.agg (xs.map (·.1)),xs.flatMap (·.2)) else none)=some y:=hy;split at hy
   ·rename_i hl;obtain ⟨h1,h2⟩:=bj h;cases hm:fs.toList.mapM fun f=>aaL enc P w base spare held vp f.type ((cs.drop f.offset).take (P.cellsOf f.type)) with
    |none=>rw [hm] at hy; cases hy
    |some ys=>
     cases ht:vn abl (fun f=>P.cellsOf f.type) 0 fs.toList with
     |none=>rw [ht] at h1; cases h1
     |some m=>
      rw [ht] at h1;have h1:=aao (show aaR m (P.cellsOf t)=true from h1);obtain ⟨_,oo,q1,q2,q3⟩:=Bb (R:=tZ w) (w:=w) (off:=abl) (len:=fun f=>P.cellsOf f.type) (cs:=cs) (fun x ps y hx hy'=>vq yl n hx hy') ht h2 hm;rw [h1,← hl] at q1 q3;simp only [aa3,abn,aa9] at q1 q3;exact ⟨oo,q1,q2,q3⟩
   ·cases hy
  ·rename_i m e hu;rw [hu] at hy;have hy:(if cs.length=P.cellsOf t then ((aaV m).mapM fun i=>aaL enc P w base spare held vp e ((cs.drop (i * P.cellsOf e)).take (P.cellsOf e))).map fun xs=>(.agg (xs.map (·.1)),xs.flatMap (·.2)) else none)=some y:=hy;split at hy
   ·rename_i hl;obtain ⟨h1,h2⟩:=bj h;cases hm:(aaV m).mapM fun i=>aaL enc P w base spare held vp e ((cs.drop (i * P.cellsOf e)).take (P.cellsOf e)) with
    |none=>rw [hm] at hy; cases hy
    |some ys=>
     cases ht:vn (fun i=>i * P.cellsOf e) (fun _=>P.cellsOf e) 0 (aaV m) with
     |none=>rw [ht] at h1; cases h1
     |some k=>
      rw [ht] at h1;have h1:=aao (show aaR k (P.cellsOf t)=true from h1);obtain ⟨_,oo,q1,q2,q3⟩:=Bb (R:=tZ w) (w:=w) (off:=fun i=>i * P.cellsOf e) (len:=fun _=>P.cellsOf e) (cs:=cs) (fun x ps y hx hy'=>vq yl n hx hy') ht h2 hm;rw [h1,← hl] at q1 q3;simp only [aa3,abn,aa9] at q1 q3;exact ⟨oo,q1,q2,q3⟩
   ·cases hy
  ·cases h
def U9 (P:Program) (n:Nat) (t:TypeId):Option aP:=match P.underlying t with
 |some u=>match Lj P n t with
  |some ps=>vo (Go.Am.lC u) ps
  |none=>none
 |none=>none
theorem Qf (yl:∀ b,spare b=true) {n:Nat} {t:TypeId} {p:aP} (hp:U9 P n t=some p) {v:Value} {d:DataW H} {pl:List MemPlace} {r:Reach} {base':Nat} (ht:DataW.Trod enc P w base spare held t v d pl) (dG:aaY P w r base' t v) :
  ∃ x:p.T,Rel (tZ w) w (p.enc x) v∧p.wf x:=by
 obtain ⟨vp,ht⟩:=ht;have fin:∀ {a:AV},p.fits a=true→p.wf (p.bw a)→Rel (tZ w) w a v→∃ x:p.T,Rel (tZ w) w (p.enc x) v∧p.wf x:=fun {a} h1 h2 h3=>⟨p.bw a,(p.dE h1).hJ _ _ _ h3,h2⟩
 unfold U9 at hp;split at hp
 ·rename_i u hu;split at hp
  ·rename_i ps h1;obtain ⟨oo,q1,q2,q3⟩:=vq yl n h1 ht;obtain ⟨x,hx,f1,f2⟩:=FY hp q2;cases Du:Go.Am.lC u with
   |true=>
    rw [Du] at hx;simp only [if_true] at hx;subst hx;have:∃ cs,v=.agg cs:=by
     unfold aaY at dG;rw [hu] at dG;cases u <;> first | (cases Du; done) | (obtain ⟨cs,h,_⟩:=dG; exact ⟨cs,h⟩)
    obtain ⟨⟨cs⟩,rfl⟩:=this;exact fin f1 f2 (.agg q1 q3)
   |false=>
    rw [Du] at hx;simp only [Bool.false_eq_true,if_false] at hx;subst hx;have hv:v.cells.toList=[v]:=by
     cases v with
     |agg cs=>
      exfalso;unfold aaY at dG;rw [hu] at dG;cases u <;> first | (cases Du; done) | (simp [Cell.okWide,Cell.ok,hu] at dG)
     |_=>rfl
    rw [hv] at q1;cases q1 with
    |cons q1 _=>exact fin f1 f2 q1
  ·cases hp
 ·cases hp
def FZ (P:Program) (n:Nat):List TypeId→Option (List aP)
 |[]=>some []
 |t :: l=>match U9 P n t,FZ P n l with
  |some p,some r=>some (p :: r)
  |_,_=>none
theorem F0 (yl:∀ b,spare b=true) {n:Nat} {r:Reach} {base':Nat}:∀ {ts:List TypeId} {ps:List aP} {vs:List Value} {ds:List (DataW H)} {pl:List MemPlace},FZ P n ts=some ps→aa0 enc P w base spare held ts vs ds pl →
  (∀ (j:Nat) t v,ts[j]?=some t→vs[j]?=some v→aaY P w r base' t v)→∃ x:(ng ps).T,aL (tZ w) w ((ng ps).enc x) vs∧(ng ps).wf x
 |[],ps,vs,ds,pl,hp,ht,_=>by
  simp only [FZ] at hp;cases hp;cases vs with
  |nil=>exact ⟨(),.nil,trivial⟩
  |cons _ _=>cases ds <;> exact ht.elim
 |t :: ts,ps,vs,ds,pl,hp,ht,dG=>by
  unfold FZ at hp;split at hp
  ·rename_i p r h1 h2;cases hp;cases vs with
   |nil=>cases ds <;> exact ht.elim
   |cons v vs=>
    cases ds with
    |nil=>exact ht.elim
    |cons d ds=>
     obtain ⟨p1,p2,k1,k2,_⟩:=ht;obtain ⟨x,q1,q2⟩:=Qf yl h1 k1 (dG 0 t v rfl rfl);obtain ⟨y,q3,q4⟩:=F0 yl h2 k2 (fun j t v hj hv=>dG (j+1) t v (by simpa using hj) (by simpa using hv));cases r with
     |nil=>
      cases q3;exact ⟨x,.one q1,q2⟩
     |cons p' r=>exact ⟨(x,y),.cons q1 q3,q2,q4⟩
  ·cases hp
end read
end Go.Am
namespace Go.Am
open Go Go.RowKit Go.WideShapes Go.ChangeShapes
section
variable {H:Type} {enc:TypeId × Value→H} {P:Program}
theorem Iv {f:Func} {s:ChangeSpec} {apart fresh handsOn again:Bool} {W W':World} {args:Array Value} {v:Value} {ds gs:List (DataW H)} {before pa pv:List MemPlace}
  (hW:DataW.Whole enc P f.params.toList s.vars apart W args.toList ds gs before)
  (DO:∀ (b:Nat) (sp:Nat→Bool) (hd:Bool),aa0 enc P W' b sp hd f.resultTypes.toList (v.resultList f.resultTypes.size) (s.fn H (ds++gs)).results [])
  (oa:∀ sp:Nat→Bool,(∀ p∈before,sp p.block=true)→aa0 enc P W' 0 sp true f.params.toList args.toList (s.fn H (ds++gs)).args pa)
  (F1:∀ sp:Nat→Bool,(∀ p∈before,sp p.block=true)→DataW.TrodVars enc P W' sp s.vars (s.fn H (ds++gs)).vars pv)
  (LS:before=pa++pv) (hb:Below W.heap.size W W')
  (dG:∀ (j:Nat) (t:TypeId) (r:Value),f.resultTypes[j]?=some t→(v.resultList f.resultTypes.size)[j]?=some r→aaY P W' .any 0 t r) :
  s.post enc P f apart fresh handsOn again W args v W':=by
 have bW:∀ p∈before,p.block < W.heap.size:=fun p hp=>hW.lt p hp
 have hold:∀ p∈before,(fun b=>decide (b < W.heap.size)) p.block=true:=fun p hp=>by simpa using bW p hp
 refine ⟨ds,gs,before,[],pa,pv,hW,DO _ _ _,oa _ hold,F1 _ hold,World.keptBut_mono (fun p hp=>⟨hp,?_⟩) (hb.frame (·∈before)),fun _=>?_⟩
 ·rw [LS,abb] at hp;exact Or.inr hp
 ·obtain ⟨_,_,_,_,_,hz,hn⟩:=hW;refine ⟨dG,_,_,([]++pa)++pv,⟨[]++pa,pv,trodAll_append (oa _ (fun _ _=>rfl)) (DO _ _ _),F1 _ (fun _ _=>rfl),rfl,?_,?_⟩,?_⟩
  ·intro b off hp;have Ct:MemPlace.cell b off∈before:=by rw [LS]; simpa using hp
   rw [hb.frozen (bW _ Ct)];exact hz b off Ct
  ·intro ha;have:=hn ha;rw [LS] at this;simpa using this
  ·intro p hp _;rw [LS];simpa using hp
theorem tg (hl:laidOutB P=true) {W W':World} (hb:Below W.heap.size W W') {sp:Nat→Bool}:∀ {ts:List TypeId} {vs:List Value} {ds:List (DataW H)} {pl:List MemPlace},
  (∀ t∈ts,P.readableRec t=true∧t < P.types.size)→aa0 enc P W 0 (fun _=>true) true ts vs ds pl→(∀ p∈pl,p.block < W.heap.size)→(∀ p∈pl,sp p.block=true) →
  aa0 enc P W' 0 sp true ts vs ds pl
 |[],[],[],_,_,h,_,_=>h
 |t :: ts,v :: vs,d :: ds,pl,hr,h,bW,yl=>by
  obtain ⟨p,q,h1,h2,rfl⟩:=h;refine ⟨p,q,?_,tg hl hb (fun t ht=>hr t (by simp [ht])) h2 (fun x hx=>bW x (by simp [hx])) (fun x hx=>yl x (by simp [hx])),rfl⟩;exact WideElems.Trod_stays hl (hr t (by simp)).1 (hr t (by simp)).2 h1 (fun x hx=>hb.same (bW x (by simp [hx]))) (fun x hx=>yl x (by simp [hx]))
 |[],[],_ :: _,_,_,h,_,_=>h.elim
 |[],_ :: _,_,_,_,h,_,_=>h.elim
 |_ :: _,[],_,_,_,h,_,_=>h.elim
 |_ :: _,_ :: _,[],_,_,h,_,_=>h.elim
theorem Lk {E:Env} {f:FuncId} {fn:Func} {s:ChangeSpec} {ps:List aP} {apart fresh handsOn again:Bool} {W:World} {base:Nat} {args:Array Value} {ds gs:List (DataW H)} {before:List MemPlace} {n tb:Nat}
  (acU:∀ x,(ng ps).wf x→bJ E f ((ng ps).enc x) (fun r=>r=.bool true)) (Ze:FZ E.P n fn.params.toList=some ps)
  (Qg:∀ (j:Nat) t v,fn.params[j]?=some t→args[j]?=some v→aaY E.P W .any base t v)
  (hW:DataW.Whole enc E.P fn.params.toList s.vars apart W args.toList ds gs before) (Zf:∀ g cs,E.dF g=some cs→fN (tZ W) W g 0 cs)
  (F1:s.vars=[]) (yl:∀ ds:List (DataW H),ds.length=fn.params.toList.length→s.fn H ds={ results:=[.lit (.bool true)],args:=ds })
  (DO:fn.resultTypes=#[tb]) (hub:E.P.underlying tb=some .bool) (hl:laidOutB E.P=true) (hr:∀ t∈fn.params.toList,E.P.readableRec t=true∧t < E.P.types.size) (uG:E.lo=0:=by rfl) (Zd:∀ g cs,E.dF g=some cs→E.gx g=true→g < W.heap.size∧W.cell? ⟨g,cs.length,none⟩=none:=by intro _ _ _ h; exact Bool.noConfusion (show false=true from h)) :
  Calls E.P f args W fun e W'=>∃ v,e=.returned v∧s.post enc E.P fn apart fresh handsOn again W args v W':=by
 have hW0:=hW;obtain ⟨p,q,hA,hV,rfl,S5,hnd⟩:=hW;obtain ⟨rfl,rfl⟩:gs=[]∧q=[]:=by
  rw [F1] at hV;cases gs with
  |nil=>exact ⟨rfl,hV⟩
  |cons g r=>exact absurd hV (by intro h; cases h)
 obtain ⟨x,hx,hwf⟩:=F0 (fun _=>rfl) (n:=n) Ze hA (r:=.any) (base':=base) (fun j t v hj hv=>Qg j t v (by simpa using hj) (by simpa using hv));have hlen:ds.length=fn.params.toList.length:=by
  clear Qg S5 hnd hW0 hx hwf yl Ze hr;revert hA;generalize fn.params.toList=ts;generalize args.toList=vs;generalize p=pl;clear p;intro hA
  induction ts generalizing vs ds pl with
  |nil=>cases vs <;> cases ds <;> first | rfl | exact hA.elim
  |cons t ts ih=>
   cases vs with
   |nil=>cases ds <;> exact hA.elim
   |cons v vs=>
    cases ds with
    |nil=>exact hA.elim
    |cons d ds=>
     obtain ⟨p,q,_,h2,_⟩:=hA;simp [ih vs q h2]
 have hG:eY E (tZ W) W []:=⟨rfl,fun id go ro h=>by simp [nth] at h,fun i j ri rj b h=>by simp [tZ,nth] at h,fun b o h=>h,fun g cs hg=>⟨Zf g cs hg,fun hx=>Zd g cs hg hx⟩,by rw [uG]; exact aaQ _⟩;have hc:=(acU x hwf []);refine (callsIn_wide.1 (hc.2 (tZ W) W args.toList hG hx)).mono fun e W' he=>?_
 cases e with
 |panicked c=>exact he.elim
 |outgrown=>exact he.elim
 |returned c=>
  obtain ⟨r,G',R',⟨_,rfl⟩,dJ,_,st⟩:=he;cases dJ;have hb:Below W.heap.size W W':=⟨st.os,st.tape,st.output,st.size,fun k hk=>st.keep k hk fun ho=>by
   obtain ⟨id,ro,h1,_⟩:=gL ho;simp [tZ,nth] at h1⟩
  have bW:∀ y∈p,y.block < W.heap.size:=fun y hy=>by simpa using hW0.lt y (by simpa using hy)
  have e1:s.fn H (ds++[])={ results:=[.lit (.bool true)],args:=ds }:=by rw [List.append_nil]; exact yl ds hlen
  refine ⟨_,rfl,Iv (pa:=p) (pv:=[]) hW0 ?_ ?_ ?_ rfl hb ?_⟩
  ·intro b sp hd;rw [e1,DO];exact trodAll_mk1 (shut_bool hub true)
  ·intro sp acW;rw [e1];exact tg hl hb hr hA bW (fun y hy=>acW y (by simpa using hy))
  ·intro sp _;rw [e1,F1];rfl
  ·intro j t r hj ky;rw [DO] at hj ky;cases j with
   |succ j=>simp at hj
   |zero=>
    simp at hj;subst hj;have:r=.bool true:=by simpa [Value.resultList] using ky.symm
    subst this;simp [aaY,Cell.okWide,Cell.ok,hub]
end
end Go.Am
namespace Go.Am
open Go
section
variable {P:Program} {W:World}
end
end Go.Am
namespace Go.Am
open Go
theorem cH {p:aP} (hp:p.plain=true) (l:List p.T):allFit p.fits (aax p.enc l)=true:=by
 induction l with
 |nil=>rfl
 |cons x l ih=>simp [allFit,ih,(p.bA x hp).1]
theorem eW {p:aP} (hp:p.plain=true) (l:List p.T):aax p.bw (aax p.enc l)=l:=by
 induction l with
 |nil=>rfl
 |cons x l ih=>simp [ih,(p.bA x hp).2]
end Go.Am
namespace Go.Am
open Go Go.RowKit
section
variable {E:Env} {R:ai} {w w':World}
theorem Below.Zg (h:Below w.heap.size w w') (wf:∀ b o,R.I b o→b < w.heap.size):Ext R w R w':=
 ⟨fun _ _ h=>h,fun b o hi=>bL (h.block b (wf b o hi)) o,fun _ ro h=>⟨ro,h,cj.refl ro⟩,.old fun b hb=>h.block b hb⟩
theorem Below.acX {G:List GO} (h:Below w.heap.size w w') (hg:eY E R w G) (hE:E.lo=0):eY E R w' G:=
 hg.keep (Below.Zg h hg.wf) rfl (fun b hb=>h.block b (hg.bT hb)) (fun _ _ _ hi=>hi) (fun b o hi=>Nat.lt_of_lt_of_le (hg.wf b o hi) h.size) (fun _=>by rw [hE]; exact aaQ _)
theorem Below.Zh {β:Nat→Nat} {bx:cX} (h:Below w.heap.size w w') (wf:∀ b o,R.I b o→b < w.heap.size):Step R w β bx R w' β bx:=
 ⟨Below.Zg h wf,h.os,h.tape,h.output,h.size,fun b hb _=>h.block b hb,fun _ _ ho=>ho,fun _ _ hi _ _=>hi⟩
theorem Plain.of {P : Program} {g : FuncId} {fn : Func} (h : P.funcs[g]? = some fn) (h1 : fn.body.isNone = false) (h2 : (fn.name == "runtime.NumGoroutine") = false) : Plain P g := ⟨fn, h, h1, h2⟩
end
def p2 (a b:aP):aQ:=.cons a (.cons b .nil)
def p1 (a:aP):aQ:=.cons a .nil
def Bc:List UInt8 × List UInt8→Option Int
 |(s,[c])=>some (s.count c:Nat)
 |_=>none
def Iw:bK:=⟨p2 .str .str,.int .i64,Bc⟩
section
variable {E:Env}
end
end Go.Am
namespace Go.Am
open Go
theorem Pd {x:Int} (h:-9223372036854775808≤x∧x≤9223372036854775807):IntKind.wrap .i64 x=x:=IntWalk.i64_in x (by omega)
def fM (N:Nat):Prop:=18446744073709551616≤N
theorem qm {V X:Type} (rd:V→Option (V ⊕ X)) (n:Nat) (v:V):aB rd (n+1) v=(rd v).bind fun o=>Sum.elim (fun v'=>aB rd n v') (fun x=>some x) o:=rfl
theorem fW {α:Type} (g:α→AV) (xs:List α) (k:Nat) (h:k < xs.length):ae (xs.map g) k=g xs[k]:=by
 unfold ae;rw [aN,aa6,aav h];rfl
def foldI {S α Y:Type} (st:S→α→S ⊕ Y):S→List α→S ⊕ Y
 |s,[]=>.inl s
 |s,a :: l=>Sum.elim (fun s'=>foldI st s' l) (fun y=>.inr y) (st s a)
theorem jr {V X S α Y:Type} {rd:V→Option (V ⊕ X)} (l:List α) (E:S→Nat→V) (st:S→α→S ⊕ Y) (fin:S→X) (ex:Y→X) (P:S→Nat→Prop)
  (h:∀ s k (hk:k < l.length),P s k→rd (E s k)=some (Sum.map (fun s'=>E s' (k+1)) ex (st s l[k]))∧∀ s',st s l[k]=.inl s'→P s' (k+1))
  (h0:∀ s,P s l.length→rd (E s l.length)=some (.inr (fin s))) :
  ∀ n s k,k≤l.length→l.length < n+k→P s k→aB rd n (E s k)=some (Sum.elim fin ex (foldI st s (l.drop k)))
 |0,s,k,hk,hn,_=>by omega
 |n+1,s,k,hk,hn,hP=>by
  rw [qm];by_cases bW:k < l.length
  ·obtain ⟨h1,h2⟩:=h s k bW hP;rw [h1,aa8 bW];simp only [aba,foldI];cases hs:st s l[k] with
   |inl s'=>
    simp only [Sum.map_inl,aa2];exact jr l E st fin ex P h h0 n s' (k+1) (by omega) (by omega) (h2 s' hs)
   |inr y=>simp only [Sum.map_inr,Sum.elim_inr]
  ·have:k=l.length:=by omega
   subst this;rw [h0 s hP,abe (aaq _)];rfl
theorem eI {V X S α:Type} {rd:V→Option (V ⊕ X)} (l:List α) (E:S→Nat→V) (f:S→α→S) (fin:S→X) (P:S→Nat→Prop)
  (h:∀ s k (hk:k < l.length),P s k→rd (E s k)=some (.inl (E (f s l[k]) (k+1)))∧P (f s l[k]) (k+1))
  (h0:∀ s,P s l.length→rd (E s l.length)=some (.inr (fin s))) :
  ∀ n s k,k≤l.length→l.length < n+k→P s k→aB rd n (E s k)=some (fin ((l.drop k).foldl f s))
 |0,s,k,hk,hn,_=>by omega
 |n+1,s,k,hk,hn,hP=>by
  rw [qm];by_cases bW:k < l.length
  ·obtain ⟨h1,h2⟩:=h s k bW hP;rw [h1,aa8 bW];simp only [aba,aa2,List.foldl_cons];exact eI l E f fin P h h0 n _ (k+1) (by omega) (by omega) h2
  ·have:k=l.length:=by omega
   subst this;rw [h0 s hP,abe (aaq _)];rfl
theorem bi {V X:Type} {rd:V→Option (V ⊕ X)} (m:Nat) (E:Nat→V) (x:X) (h:∀ k,k < m→rd (E k)=some (.inl (E (k+1)))) (h0:rd (E m)=some (.inr x)) :
  ∀ n k,k≤m→m < n+k→aB rd n (E k)=some x
 |0,k,hk,hn=>by omega
 |n+1,k,hk,hn=>by
  rw [qm];by_cases bW:k < m
  ·rw [h k bW];simp only [aba,aa2];exact bi m E x h h0 n (k+1) (by omega) (by omega)
  ·have:k=m:=by omega
   subst this;rw [h0];rfl
theorem ap {k n:Nat} (h:k < n):decide (0≤(k:Int)∧(k:Int) < (n:Int))=true:=by simp; omega
theorem aE {k n:Nat} (h:k < n):decide ((k:Int) < (n:Int))=true:=by simpa using h
theorem bc (n:Nat):decide ((n:Int) < (n:Int))=false:=by simp
theorem bg {k:Nat} (h:k < 9223372036854775807):IntKind.wrap .i64 ((k:Int)+1)=((k+1:Nat):Int):=by rw [Pd (by omega)]; simp
def Pe (n lo hi:Int):Int:=if n < lo∨n > hi then 3 else 0
def bH:List Int→Int
 |[]=>0
 |x :: l=>if x=0 then bH l else x
theorem Ei {l:List Int}:bH l=0↔∀ x∈l,x=0:=by
 induction l with
 |nil=>simp [bH]
 |cons x l ih=>
  simp only [bH,aaU,forall_eq_or_imp];by_cases h:x=0
  ·simp [h,ih]
  ·simp [h]
theorem Bd {rd:Int→Option (Int ⊕ (Int ⊕ Unit))} (l:List Int)
  (h:∀ k (hk:k < l.length),rd (k:Int)=some (if l[k]=0 then .inl ((k+1:Nat):Int) else .inr (.inl l[k]))) (h0:rd (l.length:Int)=some (.inr (.inr ()))) (n:Nat) (hn:l.length < n) :
  ∃ o,aB rd n 0=some o∧Sum.elim (fun x=>x) (fun _=>0) o=bH l:=by
 have key:=jr (rd:=rd) (S:=Unit) (Y:=Int) l (fun _ k=>(k:Int)) (fun _ x=>if x=0 then .inl () else .inr x) (fun _=>.inr ()) (fun x=>.inl x) (fun _ _=>True)
  (fun s k hk _=>⟨by rw [h k hk]; by_cases e:l[k]=0 <;> simp [e],fun _ _=>trivial⟩) (fun _ _=>h0) n () 0 (aaQ _) (by omega) trivial
 refine ⟨_,key,?_⟩;rw [aa3];clear key h h0 hn
 induction l with
 |nil=>rfl
 |cons x l ih=>
  simp only [foldI,bH];by_cases e:x=0
  ·simp only [e,if_true,aa2]; exact ih
  ·simp [e]
theorem gr {rd:Int→Option (Int ⊕ (Int ⊕ Unit))} (l:List Int)
  (h:∀ k (hk:k < l.length),rd (k:Int)=some (if l[k]=0 then .inl ((k+1:Nat):Int) else .inr (.inl l[k]))) (h0:rd (l.length:Int)=some (.inr (.inr ()))) (n:Nat) (hn:l.length < n) :
  aB rd n 0=some (if bH l=0 then .inr () else .inl (bH l)):=by
 have key:=jr (rd:=rd) (S:=Unit) (Y:=Int) l (fun _ k=>(k:Int)) (fun _ x=>if x=0 then .inl () else .inr x) (fun _=>.inr ()) (fun x=>.inl x) (fun _ _=>True)
  (fun s k hk _=>⟨by rw [h k hk]; by_cases e:l[k]=0 <;> simp [e],fun _ _=>trivial⟩) (fun _ _=>h0) n () 0 (aaQ _) (by omega) trivial
 rw [aa3] at key;refine key.trans (congrArg some ?_);clear key h h0 hn
 induction l with
 |nil=>rfl
 |cons x l ih=>
  simp only [foldI,bH];by_cases e:x=0
  ·simp only [e,if_true,aa2]; exact ih
  ·simp [e]
theorem Qh (s:List UInt8) (k:Nat) (hk:k < s.length):((s[k].toNat < 128)→cQ s k=(s[k].toNat,1))∧(128≤s[k].toNat→128≤(cQ s k).1):=by
 have e1:s.getD k 0=s[k]:=by simp [hk]
 constructor
 ·intro h;have:Nat.blt s[k].toNat 128=true:=aa1 h;unfold cQ;rw [e1,this];rfl
 ·intro h;have:Nat.blt s[k].toNat 128=false:=by
   cases hb:Nat.blt s[k].toNat 128 with
   |false=>rfl
   |true=>have:=abf hb; omega
  unfold cQ;rw [e1,this];simp only [cond_false];have e2:((⟨⟨s⟩⟩:ByteArray).get! (k+0)).toNat=s[k].toNat:=by
   simp [ByteArray.get!,hk]
  unfold Utf8.decode;simp only [e2,if_neg (by omega:¬ s[k].toNat < 128)];have hr:(128:Nat)≤Utf8.runeError:=by decide
  repeat' split
  all_goals first | exact hr | skip
  all_goals simp_all
  all_goals omega
theorem acY {x:Int} (h:x≠0):(x == 0)=false:=by simpa using h
theorem B9 {x:Int} (h:x≠0):(x != 0)=true:=by simpa using h
end Go.Am
namespace Go.Am
open Go
section
variable {κ ν:Type} [DecidableEq κ]
def getM (k:κ):List (κ × ν)→Option ν
 |[]=>none
 |(k',v) :: m=>if k=k' then some v else getM k m
def iy (k:κ) (v:ν):List (κ × ν)→List (κ × ν)
 |[]=>[(k,v)]
 |(k',v') :: m=>if k=k' then (k,v) :: m else (k',v') :: iy k v m
theorem F8 {k:κ} {v:ν}:∀ {m:List (κ × ν)},getM k m=none→iy k v m=m++[(k,v)]
 |[],_=>rfl
 |(k1,v1) :: m,h=>by
  unfold getM at h;split at h
  ·cases h
  ·rename_i cq;unfold iy;rw [if_neg cq,F8 h];rfl
theorem wW {k:κ} {v:ν}:∀ {m:List (κ × ν)},(iy k v m).map aa4=if k∈m.map aa4 then m.map aa4 else m.map aa4++[k]
 |[]=>by simp [iy]
 |(k1,v1) :: m=>by
  unfold iy;by_cases h:k=k1
  ·simp [h]
  ·rw [if_neg h,aas,wW (m:=m)];by_cases h2:k∈m.map aa4
   ·have:k∈((k1,v1) :: m).map aa4:=by simp only [aas,aaU]; exact .inr h2
    rw [if_pos h2,if_pos this];rfl
   ·have:¬ k∈((k1,v1) :: m).map aa4:=by
     simp only [aas,aaU,not_or]; exact ⟨h,h2⟩
    rw [if_neg h2,if_neg this];rfl
theorem Ll (k:κ) (l:List κ):getM k (l.map fun x=>(x,true))=if k∈l then some true else none:=by
 induction l with
 |nil=>rfl
 |cons a l ih=>
  simp only [aas,getM,ih,aaU];by_cases h:k=a
  ·simp [h]
  ·simp [h]
structure iS (ek:EK) (nk:κ→AV) (nv:ν→AV) (nM:κ × ν→AV):Prop where
 key:∀ a b,GC ek (nk a) (nk b)=some (decide (a=b))
 pair:∀ x,nM x=.agg [nk x.1,nv x.2]
 exact:∀ x,(nM x).exact=true
variable {ek:EK} {nk:κ→AV} {nv:ν→AV} {nM:κ × ν→AV} (h:iS ek nk nv nM)
include h
theorem iS.XU:∀ m:List (κ × ν),aG (aax nM m)=m.map fun x=>(nk x.1,nv x.2)
 |[]=>rfl
 |x :: m=>by
  rw [aas,h.pair,aG,iS.XU m];rfl
theorem iS.keys (k:κ):∀ m:List (κ × ν),du ek (nk k) (aG (aax nM m))=true
 |[]=>rfl
 |x :: m=>by
  have:=iS.keys k m;rw [aas,h.pair,aG];show ((GC ek (nk k) (nk x.1)).isSome&&du ek (nk k) (aG (aax nM m)))=true;rw [this,h.key];rfl
theorem iS.get (k:κ):∀ m:List (κ × ν),fL ek (nk k) (aG (aax nM m))=(getM k m).map nv
 |[]=>rfl
 |x :: m=>by
  have ih:=iS.get k m;rw [aas,h.pair,aG];show (bif BE ek (nk k) (nk x.1) then some (nv x.2) else fL ek (nk k) (aG (aax nM m)))=(if k=x.1 then some x.2 else getM k m).map nv;unfold BE;rw [h.key,ih];by_cases e:k=x.1
  ·simp [e]
  ·simp [e]
theorem iS.getD (k:κ) (z:ν) (m:List (κ × ν)):cF ek (nk k) (nv z) (aG (aax nM m))=nv ((getM k m).getD z):=by
 unfold cF;rw [h.get];cases getM k m <;> rfl
theorem iS.put (k:κ) (v:ν):∀ m:List (κ × ν),dS ek (nk k) (nv v) (aG (aax nM m))=aG (aax nM (iy k v m))
 |[]=>by
  show [(nk k,nv v)]=aG [nM (k,v)];rw [h.pair];rfl
 |x :: m=>by
  have ih:=iS.put k v m;rw [aas,h.pair,aG];show (bif BE ek (nk k) (nk x.1) then (nk k,nv v) :: aG (aax nM m) else (nk x.1,nv x.2) :: dS ek (nk k) (nv v) (aG (aax nM m)))=aG (aax nM (if k=x.1 then (k,v) :: m else (x.1,x.2) :: iy k v m));unfold BE;rw [h.key,ih];by_cases e:k=x.1
  ·simp only [e,decide_true,cond_true,if_true,aas];rw [h.pair (x.1,v),aG];rfl
  ·simp only [e,decide_false,cond_false,if_false,aas];rw [h.pair (x.1,x.2),aG];rfl
theorem iS.cells:∀ m:List (κ × ν),af (aG (aax nM m))=aax nM m
 |[]=>rfl
 |x :: m=>by
  have ih:=iS.cells m;rw [aas,h.pair,aG];show AV.agg [nk x.1,nv x.2] :: af (aG (aax nM m))=_;rw [ih]
theorem iS.jP (m:List (κ × ν)):Go.Am.jP (aG (aax nM m))=true:=by
 unfold Go.Am.jP;rw [h.cells]
 induction m with
 |nil=>rfl
 |cons x m ih=>rw [aas,fw,ih,h.exact]; rfl
end
theorem JM (k:IntKind) (a b:Int):GC .int (.int k a) (.int k b)=some (decide (a=b)):=by
 unfold GC;simp only [nK,if_true];by_cases h:a=b
 ·subst h; simp [EK.wide]
 ·have:(a == b)=false:=by simpa using h
  rw [this]; simp [h]
theorem Q0 (a b:Int × Int):GC (.st (.cons 0 1 false .int (.cons 1 1 false .int .nil))) (.agg [.int .i64 a.1,.int .i64 a.2]) (.agg [.int .i64 b.1,.int .i64 b.2])=some (decide (a=b)):=by
 obtain ⟨a1,a2⟩:=a;obtain ⟨b1,b2⟩:=b;have e:nK (.st (.cons 0 1 false .int (.cons 1 1 false .int .nil))) (.agg [.int .i64 a1,.int .i64 a2]) (.agg [.int .i64 b1,.int .i64 b2])=some ((a1 == b1)&&((a2 == b2)&&true)):=rfl;unfold GC;rw [e];by_cases h1:a1=b1 <;> by_cases h2:a2=b2
 ·subst h1; subst h2;simp [EK.wide,pP,qS,uq]
 all_goals simp [h1,h2]
end Go.Am
namespace Go.Am
open Go
theorem nu {V X:Type} (rd:(V→Option X)→V→Option X) (n:Nat) (v:V):fq rd (n+1) v=rd (fq rd n) v:=rfl
def je (L:List Nat):List Int:=L.map fun n:Nat=>(n:Int)
theorem F9 {α:Type} (f:α→AV × AV) (m:List α) {i:Nat} (h:i < m.length):cE (m.map f) i=f m[i]:=by
 unfold cE;rw [aN,aa6,aav h];rfl
end Go.Am
namespace Go.Am
open Go Go.RowKit Go.Proofs Go.Shelf Go.Lib
def JZ (sz pK:Nat) (el:TypeId):List AV→List GO→Option (Bool × AV × List GO)
 |[.list .nil _ [],.int .i64 n],G=>some (decide (0≤n∧n * (pK:Int)≤140737488355328∧n≤4611686018427387904),.de G.length 0 0 sz 0,G++[.cg [] sz el])
 |_,_=>none
section
variable {E:Env} {ρ:Ren}
theorem Gi (L:Lays8.n4 E.P ρ) (hp:Plain E.P (ρ.f 4)) (i0:TypeInfo) (z:Value) (Z1:E.P.info? (ρ.t 25)=some i0) (Yt:i0.zero=some z) (XB:0 < i0.size) (hzs:z.cells.size=i0.size) :
  ∀ (args:List AV) (G:List GO) (r:AV) (G':List GO),JZ i0.size i0.bytes (ρ.t 25) args G=some (true,r,G')→cZ E (ρ.f 4) args G (fun r' CQ=>r'=r∧CQ=G'):=by
 intro args G r G' h;unfold JZ at h;split at h
 ·rename_i G1 sz0 n;injection h with h;injection h with h1 h;injection h with h2 h3;subst h2; subst h3;have h1:=of_decide_eq_true h1;obtain ⟨Cm,MR,ah7⟩:=h1;refine ⟨hp,fun R w cs hg hl=>callsIn_wide.2 ?_⟩;cases hl with
  | @cons _ cv _ _ r1 hl=>
  cases hl with
  | @cons _ nv _ _ r2 hl=>
  cases hl;cases r2;have TY:∃ c0,cv=.slice none 0 c0∧c0=0:=by
   cases r1 with
   |jZ=>exact ⟨_,rfl,rfl⟩
   |list _ _ _ hk=>exact hk.elim
  obtain ⟨c0,rfl,rfl⟩:=TY;obtain ⟨m,rfl⟩:∃ m:Nat,n=(m:Int):=⟨n.toNat,by omega⟩;have bl:aY E R w (fun _=>0) ⟨[],[],G,[],none,0⟩ (⟨#[],[]⟩:Act):=
   ⟨hg,⟨fun k cs h=>by simp [dR] at h,fun k k' cs eZ h=>by simp [dR] at h⟩,fun i hi=>absurd rfl hi,rfl,trivial⟩
  by_cases hm:m=0
  ·subst hm;refine (Any8.slices_Grow_room (P:=E.P) (ρ:=ρ) L none 0 0 0 w (aaq _) (by omega) (by omega) (by omega)).mono fun e w' ⟨e1,e2⟩=>?_
   have e2:=e2.symm;subst e1; subst e2;obtain ⟨k1,k2⟩:=bl.CC (i0.size+65536) (ρ.t 25);have hn:nth (ig R).obj G.length=some .a8:=by rw [← hg.len]; exact bS _ _
   have ev:Ut G.length (i0.size+65536)=.de G.length 0 0 i0.size 0:=by
    unfold Ut;rw [aa1 (Nat.le_add_left _ _),Nat.add_sub_cancel];rfl
   have eo:LX (i0.size+65536) (ρ.t 25)=.cg [] i0.size (ρ.t 25):=by
    unfold LX;rw [aa1 (Nat.le_add_left _ _),Nat.add_sub_cancel];rfl
   have hv:Rel (ig R) w (.de G.length 0 0 i0.size 0) (.slice none 0 0):=by
    rw [← ev]; exact Jh hn
   have hk1:=k1.g;have eG:((⟨[],[],G,[],none,0⟩:St).eF (LX (i0.size+65536) (ρ.t 25))).G=G++[.cg [] i0.size (ρ.t 25)]:=by
    show G++[LX (i0.size+65536) (ρ.t 25)]=_;rw [eo]
   rw [eG] at hk1;exact ⟨_,_,ig R,⟨rfl,rfl⟩,hv,hk1,k2⟩
  ·have Wj:(0+m) * i0.bytes≤140737488355328:=by
    rw [aaN];have:((m * i0.bytes:Nat):Int)≤140737488355328:=by rw [Int.natCast_mul]; exact MR
    omega
   have key:=Any8.slices_Grow_grow (P:=E.P) (ρ:=ρ) L i0 z Z1 Yt XB none 0 0 m [] w (aaq _) (by omega) Wj (by omega) (by simp) (fun _=>rfl) (fun a h=>by cases h);refine key.mono fun e w' ⟨e1,e2⟩=>?_
   have BM:=grownCap_ge w (0+m) 0 (ρ.t 25);have hcm:=grownCap_le_maxLen w (0+m) 0 (ρ.t 25) (by unfold maxLen; omega);generalize grownCap w (0+m) 0 (ρ.t 25)=cap at *;subst e1; subst e2;obtain ⟨d1,d2⟩:=bl.drew;have eR:(([]:List Value).toArray++aal z.cells (0+m - 0)++aal z.cells (cap - (0+m))).size=cap * i0.size:=by
    simp only [Array.size_append,List.size_toArray,size_zeroCells,hzs,List.length_nil,aaN,abn,← aa5];congr 1;omega
   have r1:=d1.Hn (cur:=([]:List Value).toArray++aal z.cells (0+m - 0)++aal z.cells (cap - (0+m))) (vs:=[]) (es:=[]) (elem:=ρ.t 25) (sz:=i0.size) (cap:=cap) (aaQ _) hcm eR (fun e he=>by cases he) .nil (fun v hv=>by cases hv) (by simp);have st:=d2.trans (dy d1 (.cells (([]:List Value).toArray++aal z.cells (0+m - 0)++aal z.cells (cap - (0+m))) (ρ.t 25)) (.tok 0 w.drew.heap.size cap 0) (by exact fun _ h=>h));have hv:Rel (R.add (.tok 0 w.heap.size cap 0)) (w.drew.alloc (.cells (([]:List Value).toArray++aal z.cells (0+m - 0)++aal z.cells (cap - (0+m))) (ρ.t 25))) (.de G.length 0 0 i0.size 0) (.slice (some ⟨w.heap.size,0,none⟩) 0 cap):=
    Rel.de (gV bl _) ⟨aaq _,fun _=>⟨rfl,aaN _,.inl (aaS _).symm⟩⟩ (aaQ _)
   exact ⟨_,_,_,⟨rfl,rfl⟩,hv,r1.g,st⟩
 ·cases h
end
end Go.Am
namespace Go.Am
open Go Go.RowKit Go.Proofs Go.Shelf Go.Lib
def Et (el:TypeId):List AV→List GO→Option (Bool × AV × List GO)
 |[.list _ sz es],G=>some ((aaR sz 1 || es.isEmpty)&&(allFit (aP.fits (.int .i64)) es&&decide (es.length * 8≤140737488355328)),.de G.length es.length 0 1 es.length,G++[.cg es 1 el])
 |_,_=>none
theorem Wl {a b:IntKind} (h:TM a b=true):b=a:=by cases a <;> cases b <;> first | rfl | cases h
theorem Bu:∀ {es:List AV},allFit (aP.fits (.int .i64)) es=true→an es=es∧es=es.map fun e=>.int .i64 e.pM
 |[],_=>⟨rfl,rfl⟩
 |e :: es,h=>by
  simp only [allFit,aap] at h;obtain ⟨h1,h2⟩:=h;obtain ⟨k1,k2⟩:=Bu h2;cases e <;> first | (simp [aP.fits] at h1; done) | skip
  rename_i k n;have hk:k=.i64:=Wl h1;subst hk;exact ⟨by simp only [an,AV.cells,k1,List.cons_append,List.nil_append],by rw [aas,← k2]; rfl⟩
theorem De {R:ai} {w:World}:∀ {zs:List Int} {vs:List Value},aL R w (zs.map fun z=>AV.int .i64 z) vs→vs=zs.map (abq .i64)
 |[],_,h=>by cases h; rfl
 |z :: zs,vs,h=>by
  cases h with
  | @cons _ c _ cs h1 h2=>
   cases h1;rw [De h2]; rfl
theorem Gj {R:ai} {w:World}:∀ zs:List Int,aL R w (zs.map fun z=>AV.int .i64 z) (zs.map (abq .i64))
 |[]=>.nil
 |z :: zs=>.cons (.int .i64 z) (Gj zs)
section
variable {E:Env} {R:ai} {w w':World}
theorem Df {G:List GO} (hg:eY E R w G) (hE:E.lo=0) (hb:Below w.heap.size w w') {g cap sz:Nat} {es:List AV} {el:TypeId} {cur:Array Value} {vs:List Value} (LZ:w.heap.size≤g) (hc:w'.heap[g]?=some (.cells cur el (0,0)))
  (hn:es.length≤cap) (hm:cap≤maxLen) (hs:cur.size=cap * sz) (kr:dX sz es) (hr:aL R w (an es) vs) (h1:∀ v∈vs,v.oneCell'=true) (ht:cur.toList.take (es.length * sz)=vs) :
  eY E (R.add (.tok es.length g cap 0)) w' (G++[.cg es sz el])∧Step R w (fun _=>0) gW (R.add (.tok es.length g cap 0)) w' (fun _=>0) gW:=by
 have e:Ext R w (R.add (.tok es.length g cap 0)) w':=
  ⟨fun _ _ h=>h,fun b o hi=>bL (hb.block b (hg.wf b o hi)) o,fun _ r h=>⟨r,bn h,cj.refl r⟩,.old fun b kX=>hb.block b kX⟩
 have bW:∀ {i r b},nth R.obj i=some r→r.has b→b < w.heap.size:=fun h1 h2=>hg.bT ⟨_,_,h1,h2⟩
 refine ⟨⟨by simp [ai.add,hg.len],fun i gg r q1 q2=>?_,fun i j ri rj b q1 q2 b1 b2=>?_,fun b o hi=>Nat.lt_of_lt_of_le (hg.wf b o hi) hb.size,fun g cs hq=>(hg.dF g cs hq).mono e,by rw [hE]; exact aaQ _⟩,?_⟩
 ·rcases ah q2 with q2|⟨q3,rfl⟩
  ·rcases ah q1 with q1|⟨q4,_⟩
   ·exact (hg.obj i gg r q1 q2).mono e (fun b kX=>hb.block b (bW q2 kX)) (fun _ _ _ hi=>hi)
   ·have:=aU q2;rw [hg.len] at this;omega
  ·rcases ah q1 with q1|⟨q4,rfl⟩
   ·have:=aU q1;rw [q3,hg.len] at this;omega
   ·exact ⟨rfl,rfl,kr,cur,vs,hc,hn,hm,hs,fun o hi=>by have:=hg.wf _ _ hi; omega,hr.mono e,h1,ht⟩
 ·rcases ah q1 with g1|⟨g3,rfl⟩
  ·rcases ah q2 with g2|⟨g4,rfl⟩
   ·exact hg.inj i j ri rj b g1 g2 b1 b2
   ·have:=bW g1 b1;simp [RO.has] at b2;omega
  ·rcases ah q2 with g2|⟨g4,rfl⟩
   ·have:=bW g2 b2;simp [RO.has] at b1;omega
   ·omega
 ·refine ⟨e,hb.os,hb.tape,hb.output,hb.size,fun b kX _=>hb.block b kX,fun b kX ho=>?_,fun _ _ hi _ _=>hi⟩;rcases ho with ⟨i,r,l1,l2⟩|⟨k,cs,hk,_⟩
  ·rcases ah l1 with l1|⟨_,rfl⟩
   ·exact .inl ⟨i,r,l1,l2⟩
   ·simp [RO.has] at l2;omega
  ·simp [gW,dR] at hk
variable {ρ:Ren}
theorem Lu (L:Lays2.n15 E.P ρ) (hp:Plain E.P (ρ.f 15)) (hE:E.lo=0) :
  ∀ (args:List AV) (G:List GO) (r:AV) (G':List GO),Et (ρ.t 3) args G=some (true,r,G')→cZ E (ρ.f 15) args G (fun r' CQ=>r'=r∧CQ=G'):=by
 intro args G r G' h;unfold Et at h;split at h
 ·rename_i G1 k sz es;injection h with h;injection h with h1 h;injection h with h2 h3;subst h2; subst h3;simp only [aap,decide_eq_true_eq] at h1;obtain ⟨eR,nO,Wm⟩:=h1;obtain ⟨ic1,ic2⟩:=Bu nO;have adO:dX 1 es:=fun e he=>by
   rw [ic2] at he;obtain ⟨x,_,rfl⟩:=List.mem_map.1 he;exact ⟨rfl,rfl⟩
  refine ⟨hp,fun R w cs hg hl=>callsIn_wide.2 ?_⟩;cases hl with
  | @cons _ cv _ _ r1 hl=>
  cases hl
  -- nil
  have J0:es=[]→cv=.slice none 0 0→Calls E.P (ρ.f 15) ⟨[cv]⟩ w (CE E R w fun r' CQ=>r'=.de G.length es.length 0 1 es.length∧CQ=G++[.cg es 1 (ρ.t 3)]):=fun he hc=>by
   subst he; subst hc;have bl:aY E R w (fun _=>0) ⟨[],[],G,[],none,0⟩ (⟨#[],[]⟩:Act):=
    ⟨hg,⟨fun k cs h=>by simp [dR] at h,fun k k' cs eZ h=>by simp [dR] at h⟩,fun i hi=>absurd rfl hi,rfl,trivial⟩
   refine (Any.slices_Clone_int_nil L 0 0 w).mono fun e w' ⟨e1,e2⟩=>?_
   subst e1; subst e2;obtain ⟨k1,k2⟩:=bl.CC (1+65536) (ρ.t 3);have hn:nth (ig R).obj G.length=some .a8:=by rw [← hg.len]; exact bS _ _
   exact ⟨_,_,ig R,⟨rfl,rfl⟩,Rel.jO hn trivial,k1.g,k2⟩
  -- a row of its own
  have Oc:∀ {v':Value} {w':World} {zs:List Int},es=zs.map (fun z=>AV.int .i64 z)→w'.ownsRow w.heap.size (ρ.t 3) 1 v' es.length (zs.map (abq .i64))→v'≠.slice none 0 0→Below w.heap.size w w' →
    CE E R w (fun r' CQ=>r'=.de G.length es.length 0 1 es.length∧CQ=G++[.cg es 1 (ρ.t 3)]) (.returned v') w':=fun {v' w' zs} BG qY cq PK=>by
   obtain ⟨_,qY⟩:=qY;rcases qY with ⟨rfl,_⟩|⟨g,cap,cur,rfl,LZ,hc,hn,hm,hs,ht⟩
   ·exact absurd rfl cq
   ·have dJ:aL R w (an es) (zs.map (abq .i64)):=by
     rw [ic1,BG];exact Gj zs
    obtain ⟨r1,r2⟩:=Df hg hE PK LZ hc hn hm hs adO dJ (fun v hv=>by obtain ⟨x,_,rfl⟩:=List.mem_map.1 hv; rfl) ht;have wN:nth (R.add (.tok es.length g cap 0)).obj G.length=some (.tok es.length g cap 0):=by rw [← hg.len]; exact bS _ _
    refine ⟨_,_,_,⟨rfl,rfl⟩,Rel.de wN ⟨aaq _,fun _=>⟨rfl,aaN _,.inl (aaS _).symm⟩⟩ hn,r1,r2⟩
  cases r1 with
  |jZ=>exact J0 rfl rfl
  |jN=>exact J0 rfl rfl
  |me _ _=>exact J0 rfl rfl
  |mJ _ _=>exact J0 rfl rfl
  | @oG _ ad=>
   exact (Any.slices_Clone_int_zero L ad 0 w).mono fun e w' ⟨v',e1,e2,e3,e4⟩=>by subst e1; exact Oc (zs:=[]) rfl e2 e3 e4
  | @list _ _ _ b o len cap hr hlen fj hk=>
   subst hlen;by_cases cq:es=[]
   ·subst cq;exact (Any.slices_Clone_int_zero L ⟨b,o,none⟩ cap w).mono fun e w' ⟨v',e1,e2,e3,e4⟩=>by subst e1; exact Oc (zs:=[]) rfl e2 e3 e4
   ·have adP:sz=1:=by
     simp only [Bool.or_eq_true] at eR;rcases eR with q|q
     ·exact aao q
     ·simp at q; exact absurd q cq
    subst adP;obtain ⟨x0,xs,x1,x2,x3,x4⟩:=fI (esz:=1) (Rel.list hr rfl fj hk) (.inr rfl);rcases x4 with ⟨he,_⟩|⟨b',o',BT,jS,PL,xk,qB,_⟩
    ·exact absurd he cq
    ·cases jS;rw [ic1] at x1;have BG:es=(es.map AV.pM).map fun z=>AV.int .i64 z:=by rw [List.map_map]; exact ic2
     rw [BG] at x1;have hxs:=De x1;have key:=Any.slices_Clone_int L b o es.length cap (es.map AV.pM) w (by rw [abc]; exact aaq _) Wm (fun j hj=>by
      have:=qB j (.int .i64 ((es.map AV.pM).getD j 0)) (by rw [hxs,aa6,aav hj,List.getD_eq_getElem?_getD,aav hj]; rfl);rw [b9] at this;exact this)
     refine key.mono fun e w' ⟨v',e1,e2,e3,e4⟩=>?_
     subst e1;rw [aaW (by rw [abc]; exact aaq _)] at e2;exact Oc BG e2 e3 e4
 ·cases h
end
end Go.Am
namespace Go.Proofs
open Go.Shelf Go.RowKit Go.Lib Go.Sort
variable {P:Program} {ρ:Ren}
theorem yD (w:World) (t e ty:TypeId) (z:Value) (ht:P.underlying t=some (.slice e)) (hv:∀ w,(zeroValue e).run P w=.ok z w) (b o n c:Nat) (hn:0 < n)
  (h1n:∀ v∈(aal z.cells n).toList,v.oneCell'=true)
  (hc:∀ j,j < (aal z.cells n).toList.length→(w.cell? ⟨b,o+j,none⟩).isSome=true) (hf:∀ j,j < (aal z.cells n).toList.length→w.frozen? ⟨b,o+j,none⟩=false) :
  (abg #[t] ty #[.slice (some ⟨b,o,none⟩) n c]).run P w=.ok (.tuple #[]) (w.setCells b o (aal z.cells n).toList):=by
 have iP:=run_storeCells_cells (P:=P) b o (aal z.cells n).toList 0 w (by simpa using hc) (by simpa using hf) h1n;simp only [Nat.add_zero] at iP;obtain ⟨m,rfl⟩:∃ m,n=m+1:=⟨n - 1,by omega⟩;simp [abg,run_underlying ht,hv,iP]
set_option maxHeartbeats 4000000 in
set_option maxRecDepth 1000000 in
theorem Eu (L:SlLaysE0.n45 P ρ) (k:Nat) (Kx:0 < k) (z23:∀ w,(Go.sizeOf (ρ.t 23)).run P w=.ok k w) (z:Value) (zc:Array Value) (lF:z.cells=zc) (v23:∀ w,(zeroValue (ρ.t 23)).run P w=.ok z w) (i0:TypeInfo) (Z1:P.info? (ρ.t 23)=some i0) (BH:i0.size=k)
  (bE off cap i j n:Nat) (cs:List Value) (w:World) (hl:cs.length=n * k) (hc:∀ t u,cs[t]?=some u→w.cell? ⟨bE,off+t,none⟩=some u) (S5:∀ t,t < n * k→w.frozen? ⟨bE,off+t,none⟩=false) (h1:∀ u∈cs,u.oneCell'=true)
  (mg:(aal zc (j - i)).toList.length=(j - i) * k) (aar:∀ v∈(aal zc (j - i)).toList,v.oneCell'=true)
  (fj:n≤cap) (hm:cap≤9223372036854775807) (bW:i < j) (hj:j≤n) :
  Calls P (ρ.f 45) #[.slice (some ⟨bE,off,none⟩) n cap,.int .i64 i,.int .i64 j] w fun e w'=>e=.returned (.slice (some ⟨bE,off,none⟩) (n - (j - i)) cap)∧w'=(w.drew.setCells bE (off+i * k) (cs.drop (j * k))).setCells bE (off+(n - (j - i)) * k) (aal zc (j - i)).toList:=by
 have mixed:=L.mixed; have t0:=L.t0; have a0:=L.a0; have z0:=L.z0; have v0:=L.v0; have t3:=L.t3; have a3:=L.a3; have z3:=L.z3; have v3:=L.v3; have t4:=L.t4; have a4:=L.a4; have z4:=L.z4; have v4:=L.v4; have t22:=L.t22; have a22:=L.a22; have z22:=L.z22; have v22:=L.v22;have he:n - (i+(n - j))=j - i:=by omega
 have UF:i * k+(n - j) * k≤n * k:=by rw [← aa5]; exact aaZ k (by omega)
 have Jj:(i+(n - j)) * k+(j - i) * k=n * k:=by rw [← aa5]; congr 1; omega
 obtain ⟨news,zE⟩:∃ news,news=cs.drop (j * k):=⟨_,rfl⟩;have hlen:news.length=(n - j) * k:=by rw [zE,aaK,hl,Nat.sub_mul]
 obtain ⟨A,hA,aed⟩:∃ A:Addr,(if cap=j then some (⟨bE,off,none⟩:Addr) else some ⟨bE,off+j * k,none⟩)=some A∧Hid (∀ t u,news[t]?=some u→w.drew.cell? (A.add t)=some u):=by
  by_cases h:cap=j
  ·refine ⟨⟨bE,off,none⟩,by simp [h],fun t u hu=>?_⟩;have h0:news.length=0:=by rw [hlen,show n - j=0 by omega,aaS]
   rw [List.length_eq_zero_iff.1 h0] at hu;simp at hu
  ·refine ⟨⟨bE,off+j * k,none⟩,by simp [h],fun t u hu=>?_⟩;rw [zE,List.getElem?_drop] at hu;rw [Addr.add_lit,show off+j * k+t=off+(j * k+t) by omega];exact hc _ u hu
 have s1:Hid (news.length=(n - j) * k):=hlen;have s2:Hid (∀ u∈news,u.oneCell'=true):=fun u hu=>h1 u (by rw [zE] at hu; exact abi hu)
 have Ow:∀ t,t < n * k→(w.cell? ⟨bE,off+t,none⟩).isSome=true:=fun t ht=>by
  rw [← hl] at ht;rw [hc t cs[t] (aav ht)];rfl
 have s3:Hid (∀ t,t < news.length→(w.drew.cell? ⟨bE,off+i * k+t,none⟩).isSome=true∧w.drew.frozen? ⟨bE,off+i * k+t,none⟩=false):=by
  intro t ht;rw [hlen] at ht;rw [abk];exact ⟨Ow (i * k+t) (by omega),S5 (i * k+t) (by omega)⟩
 obtain ⟨W1,hW1⟩:∃ W1,W1=w.drew.setCells bE (off+i * k) news:=⟨_,rfl⟩;have iz:∀ ty,(abg #[ρ.t 22] ty #[.slice (some ⟨bE,off+(i+(n - j)) * k,none⟩) (n - (i+(n - j))) (cap - (i+(n - j)))]).run P W1=.ok (.tuple #[]) (W1.setCells bE (off+(i+(n - j)) * k) (aal zc (n - (i+(n - j)))).toList):=fun ty=>by
  rw [he,← lF];rw [← lF] at mg aar;refine yD W1 _ _ ty z t22 v23 bE (off+(i+(n - j)) * k) _ _ (by omega) aar (fun t ht=>?_) (fun t ht=>?_)
  ·rw [mg] at ht;rw [hW1,abk];exact World.isSome_setCells _ _ _ _ _ (Ow _ (by omega))
  ·rw [mg] at ht;rw [hW1,World.frozen?_setCells,abk];exact S5 _ (by omega)
 have hW:Hid (W1=w.drew.setCells bE (off+i * k) news):=hW1;have hN:Aside (W1=w.drew.setCells bE (off+i * k) (cs.drop (j * k))):=by rw [hW1,zE]; rfl
 have hic:i≤cap:=by omega
 have hjc:j≤cap:=by omega
 clear hW1 zE hlen Ow hc S5 UF he v23 lF z;obtain ⟨_,_,FG⟩:=L.f45
 go_enter FG,SlBodyN.n45_ntmps ρ
 go_wp2_with fail
 go_region_law_o (refine step_append_room rfl (.tmp 22) (.tmp 25) (ρ.t 22) rfl (ρ.t 23) i0 k t22 Z1 BH bE off i cap (by simp [Act.eval,Act.put]) A (n - j) (cap - j) news (by simp [Act.eval,Act.put]) s1.out aed.out s2.out (by omega) s3.out ?_; rw [← hW.out])
 go_wp2
 go_ret
 refine ⟨by rw [show n - (j - i)=i+(n - j) by omega]; rfl,?_⟩;rw [hN.out,show n - (i+(n - j))=j - i by omega,show n - (j - i)=i+(n - j) by omega]
end Go.Proofs
namespace Go.Am
open Go Go.RowKit Go.Proofs Go.Shelf Go.Lib
section
variable {E:Env} {ρ:Ren}
theorem qu (b:Nat) (el:TypeId):∀ (vs:List Value) (o:Nat) (w:World) (cur:Array Value),w.heap[b]?=some (.cells cur el (0,0))→o+vs.length≤cur.size →
  ∃ cur':Array Value,w.setCells b o vs=w.setRow b cur'∧cur'.toList=cur.toList.take o++vs++cur.toList.drop (o+vs.length)
 |[],o,w,cur,h,ho=>⟨cur,by
   show w=w.setRow b cur;have:w.heap=(w.setRow b cur).heap:=by
    unfold World.setRow;apply Array.ext_getElem?;intro i;rw [Array.getElem?_modify];by_cases e:b=i
    ·subst e; rw [if_pos rfl,h]; rfl
    ·rw [if_neg e]
   unfold World.setRow at this ⊢;simp only at this;rw [← this],by simp⟩
 |v :: r,o,w,cur,h,ho=>by
  rw [List.length_cons] at ho;have h1:=setCell_eq_setRow w b o cur el (0,0) v h;obtain ⟨cur',k1,k2⟩:=qu b el r (o+1) (w.setRow b (cur.setIfInBounds o v)) (cur.setIfInBounds o v) (setRow_heap w b cur _ el (0,0) h) (by simp; omega);refine ⟨cur',by rw [World.setCells,h1,k1,setRow_setRow],?_⟩;have GF:o < cur.toList.length:=by rw [aaM]; omega
  rw [k2,Array.toList_setIfInBounds,List.length_cons];have t1:(cur.toList.set o v).take (o+1)=cur.toList.take o++[v]:=by
   rw [List.take_set,List.set_eq_take_append_cons_drop,if_pos (by rw [aaI]; omega),abh,abd (Nat.le_succ o),List.drop_of_length_le (by rw [aaI]; omega)]
  have t2:(cur.toList.set o v).drop (o+1+r.length)=cur.toList.drop (o+1+r.length):=by
   rw [List.drop_set,if_pos (by omega)]
  rw [t1,t2,show o+(r.length+1)=o+1+r.length by omega];simp
theorem Ca (z:Array Value):(aal z 1).toList=z.toList:=by
 have:aal z 1=z:=by
  apply Array.ext
  ·simp [aal]
  ·intro i h1 h2;simp only [aal,Array.getElem_map,Array.getElem_range,Nat.mod_eq_of_lt h2];exact getElem!_pos z i h2
 rw [this]
theorem Dg {α:Type}:∀ (l:List α) (i:Nat) (x y:α),ak (ak l i x) i y=ak l i y
 |[],_,_,_=>rfl
 |_ :: _,0,_,_=>rfl
 |a :: l,i+1,x,y=>by
  show a :: ak (ak l i x) i y=a :: ak l i y;rw [Dg l i x y]
theorem xd {α:Type}:∀ (l:List α) (x y:α),ak (l++[x]) l.length y=l++[y]
 |[],_,_=>rfl
 |a :: l,x,y=>by
  show a :: ak (l++[x]) l.length y=a :: (l++[y]);rw [xd l x y]
def Ev (size bytes:Nat) (el:TypeId):List AV→List GO→Option (Bool × AV × List GO)
 |[.list _ sz es],G=>match nW G size el 0 with
  |some mid=>match nth G mid with
   |some (.gT rows gK EE)=>if aaR gK size&&aaR EE el then
     some (aaR sz size&&(!es.isEmpty&&decide (es.length * bytes≤140737488355328)),.eX mid rows.length size es.length,ak (G++[.dead]) mid (.gT (rows++[es]) size el)) else none
   |_=>none
  |none=>some (aaR sz size&&(!es.isEmpty&&decide (es.length * bytes≤140737488355328)),.list .gQ size es,G++[.dead])
 |_,_=>none
theorem Ly (L:SlLaysE0.n41 E.P ρ) (hp:Plain E.P (ρ.f 41)) (i0:TypeInfo) (z:Value) (size bytes:Nat) (hi:E.P.info? (ρ.t 23)=some i0) (Yt:i0.zero=some z) (BH:i0.size=size) (T3:i0.bytes=bytes) (hzs:z.cells.size=size) (eR:0 < size) (hby:0 < bytes)
  (z23:∀ w,(Go.sizeOf (ρ.t 23)).run E.P w=.ok size w) (hE:E.lo=0) :
  ∀ (args:List AV) (G:List GO) (r:AV) (G':List GO),Ev size bytes (ρ.t 23) args G=some (true,r,G')→cZ E (ρ.f 41) args G (fun r' CQ=>r'=r∧CQ=G'):=by
 intro args G r G' h;have key:∀ (k:LK) (es:List AV),args=[.list k size es]→(!es.isEmpty&&decide (es.length * bytes≤140737488355328))=true →
   (∀ (R:ai) (w:World) (c:Value),gD size es→eY E R w (G++[.cg es size (ρ.t 23)])→Rel R w (.de G.length es.length 0 size es.length) c→∃ R',Rel R' w r c∧eY E R' w G'∧Step R w (fun _=>0) gW R' w (fun _=>0) gW) →
   cZ E (ρ.f 41) args G (fun r' CQ=>r'=r∧CQ=G'):=by
  intro k es ha h1 hq;subst ha;simp only [aap,decide_eq_true_eq] at h1;obtain ⟨cq,Wm⟩:=h1;have cq:es≠[]:=fun e=>by rw [e] at cq; simp at cq
  refine ⟨hp,fun R w cs hg hl=>callsIn_wide.2 ?_⟩;cases hl with
  | @cons _ cv _ _ r1 hl=>
  cases hl;obtain ⟨x0,xs,x1,x2,x3,x4⟩:=fI (esz:=size) r1 (.inr rfl);rcases x4 with ⟨he,_⟩|⟨b,o',cap,rfl,PL,xk,qB,_⟩
  ·exact absurd he cq
  ·have hm:es.length≤maxLen:=by
    have:es.length≤es.length * bytes:=Nat.le_mul_of_pos_right _ hby
    unfold maxLen; omega
   refine (AnyE.slices_Clone L i0 z size bytes hi Yt BH T3 hzs eR z23 b o' es.length cap xs w x3 hm Wm (fun j u hu=>by
    have:=qB j u hu;rw [b9] at this;exact this) x2).mono fun e w' ⟨v',e1,e2,e3,PK⟩=>?_
   subst e1;obtain ⟨_,qY⟩:=e2;rcases qY with ⟨rfl,_⟩|⟨g,BT,cur,rfl,LZ,hc,hn,hmm,hss,ht⟩
   ·exact absurd rfl e3
   ·obtain ⟨r1,r2⟩:=Df hg hE PK LZ hc hn hmm hss x0.g x1 x2 ht;have wN:nth (R.add (.tok es.length g BT 0)).obj G.length=some (.tok es.length g BT 0):=by rw [← hg.len]; exact bS _ _
    obtain ⟨R',p1,p2,p3⟩:=hq _ _ _ x0 r1 (Rel.de wN ⟨aaq _,fun _=>⟨rfl,aaN _,.inl (aaS _).symm⟩⟩ hn);exact ⟨_,_,R',⟨rfl,rfl⟩,p1,p2,r2.trans p3⟩
 have iz:∀ es,gD size es→aF es=true:=fun es h=>by
  induction es with
  |nil=>rfl
  |cons e es ih=>
   simp only [aF,aap];exact ⟨(h e (by simp)).2.2,ih fun x hx=>h x (by simp [hx])⟩
 unfold Ev at h;split at h
 ·rename_i G1 k sz es;split at h
  ·rename_i mid _;split at h
   ·rename_i rows gK EE hm;split at h
    ·rename_i bI;simp only [aap] at bI;have q1:=aao bI.1;have q2:=aao bI.2;subst q1; subst q2;injection h with h;injection h with h1 h;injection h with h2 h3;subst h2; subst h3;rw [aap] at h1;have hs:=aao h1.1;subst hs;refine key k es rfl h1.2 (fun R w c x0 hg hr=>?_);have SF:=aU hm;have hid:nth (G++[GO.cg es sz (ρ.t 23)]) G.length=some (.cg es sz (ρ.t 23)):=bS _ _;have bl:aY E R w (fun _=>0) ⟨[],[],G++[.cg es sz (ρ.t 23)],[],none,0⟩ (⟨#[],[]⟩:Act):=
      ⟨hg,⟨fun k cs h=>by simp [dR] at h,fun k k' cs eZ h=>by simp [dR] at h⟩,fun i hi=>absurd rfl hi,rfl,trivial⟩
     obtain ⟨R',q1,q2,q3⟩:=bl.MH (id:=G.length) (mid:=mid) hid (bn hm) (iz es x0);refine ⟨R',q3 _ _ _ rfl rfl hr,?_,q2⟩;have q1':eY E R' w (ak (ak (G++[.cg es sz (ρ.t 23)]) G.length .dead) mid (.gT (rows++[es]) sz (ρ.t 23))):=q1.g;rw [xd] at q1';exact q1'
    ·cases h
   ·cases h
  ·injection h with h;injection h with h1 h;injection h with h2 h3;subst h2; subst h3;rw [aap] at h1;have hs:=aao h1.1;subst hs;refine key k es rfl h1.2 (fun R w c x0 hg hr=>?_);have hid:nth (G++[GO.cg es sz (ρ.t 23)]) G.length=some (.cg es sz (ρ.t 23)):=bS _ _;obtain ⟨ro,ba⟩:∃ ro,nth R.obj G.length=some ro:=by
    have:=aU hid;rw [← hg.len] at this;exact ⟨R.obj[G.length],by rw [aN]; exact aav this⟩
   obtain ⟨R',r1,r2,r3,r4,r5⟩:=kD (wk:=false) hg hid rfl (aaq _) (iz es x0) ba;rw [xd] at r1;have r6:=r5 _ hr;rw [aa9] at r6;refine ⟨R',r6,r1,⟨r2,rfl,rfl,rfl,aaq _,fun _ _ _=>rfl,fun b hb ho=>?_,fun b o hi hb hn=>?_⟩⟩
   ·rcases ho with ⟨i,r,l1,l2⟩|ho
    ·rw [r3] at l1;exact .inl ⟨i,r,l1,l2⟩
    ·exact .inr ho
   ·rcases r4 b o hi with hi|hi
    ·exact hi
    ·exact absurd (.inl ⟨_,ro,ba,hi⟩) hn
 ·cases h
theorem aY.shrink {R:ai} {w:World} {β:Nat→Nat} {s:St} {a:Act} (h:aY E R w β s a) {id b c sz m:Nat} {es:List AV} {el:TypeId} (hid:nth s.G id=some (.cg es sz el)) (ba:nth R.obj id=some (.tok es.length b c 0)) (hm:m≤es.length) :
  aY E ((R.reset id .none).add (.tok m b c 0)) w β (s.bq (ak s.G id .dead++[.cg (es.take m) sz el])) a∧Step R w β s.boxes ((R.reset id .none).add (.tok m b c 0)) w β s.boxes:=by
 have e1:Ext R w (R.reset id .none) w:=mD ba trivial (Ext.refl R w);have ext:Ext R w ((R.reset id .none).add (.tok m b c 0)) w:=e1.trans ⟨fun _ _ h=>h,fun _ _ _=>rfl,fun _ r h=>⟨r,bn h,cj.refl r⟩,fb.refl w⟩;have hlen:(R.reset id .none).obj.length=R.obj.length:=cw _ _ _;have sW:∀ i r x,nth ((R.reset id .none).add (.tok m b c 0)).obj i=some r→r.has x→(i=R.obj.length∧x=b)∨(i≠id∧i < R.obj.length∧nth R.obj i=some r):=fun i r x h1 h2=>by
  rcases ah h1 with h1|⟨h3,rfl⟩
  ·rcases ar ba h1 with ⟨rfl,rfl⟩|⟨k2,h1⟩
   ·exact h2.elim
   ·exact .inr ⟨k2,aU h1,h1⟩
  ·exact .inl ⟨by rw [h3,hlen],h2⟩
 have live:∀ x,Live ((R.reset id .none).add (.tok m b c 0)) x→Live R x:=fun x ⟨i,r,h1,h2⟩=>by
  rcases sW i r x h1 h2 with ⟨_,rfl⟩|⟨_,_,k⟩
  ·exact ⟨id,_,ba,rfl⟩
  ·exact ⟨i,r,k,h2⟩
 refine ⟨⟨⟨by simp [St.bq,ai.reset,ai.add,h.g.len,cw],fun i g r h1 h2=>?_,fun i j ri rj x h1 h2 b1 b2=>?_,h.g.wf,fun g cs hg=>(h.g.dF g cs hg).mono ext,h.g.lo⟩,h.b.keep ext (fun _ _ _=>rfl) (fun _ _ _ _ h=>h) (fun _ _ _ hl=>live _ hl),h.t.mono ext,h.n,h.d.mono ext⟩,⟨ext,rfl,rfl,rfl,aaq _,fun _ _ _=>rfl,fun b _ ho=>?_,fun _ _ h _ _=>h⟩⟩
 ·have O9:(ak s.G id .dead).length=R.obj.length:=by rw [cw,h.g.len]
  rcases ah h2 with h2|⟨h3,rfl⟩
  ·have bW:=aU h2;rw [hlen] at bW;rcases ah h1 with h1|⟨h4,_⟩
   ·rcases ar ba h2 with ⟨rfl,rfl⟩|⟨k2,h2⟩
    ·rw [aj hid] at h1;cases h1;exact trivial
    ·rw [aJ (Ne.symm k2)] at h1;exact (h.g.obj i g r h1 h2).mono ext (fun _ _=>rfl) (fun _ _ _ h=>h)
   ·omega
  ·rcases ah h1 with h1|⟨h4,rfl⟩
   ·have:=aU h1;omega
   ·obtain ⟨_,_,g1,cur,vs,g2,g3,g4,g5,g6,g7,g8,g9⟩:=h.g.obj id _ _ hid ba;have aef:(es.take m).length=m:=by rw [aaI]; omega
    refine ⟨rfl,aef.symm,sk _ g1,cur,vs.take (m * sz),g2,by omega,g4,g5,g6,?_,fun v hv=>g8 v (abj hv),?_⟩
    ·rw [gn _ g1];exact (g7.take _).mono ext
    ·rw [← g9,abh,abd (aaZ _ hm)]
 ·rcases sW i ri x h1 b1 with ⟨k1,rfl⟩|⟨k1,k2,k3⟩
  ·rcases sW j rj _ h2 b2 with ⟨l1,_⟩|⟨l1,l2,l3⟩
   ·omega
   ·exact absurd (h.g.inj id j _ _ _ ba l3 rfl b2).symm l1
  ·rcases sW j rj x h2 b2 with ⟨l1,rfl⟩|⟨l1,l2,l3⟩
   ·exact absurd (h.g.inj id i _ _ _ ba k3 rfl b1).symm k1
   ·exact h.g.inj i j ri rj x k3 l3 b1 b2
 ·rcases ho with ho|ho
  ·exact .inl (live b ho)
  ·exact .inr ho
def Ox (sz:Nat) (el:TypeId):List AV→List GO→Option (Bool × AV × List GO)
 |[.de id f off sz1 len,.int .i64 i,.int .i64 j],G=>match nth G id with
  |some (.cg es gK EE)=>if aaR off 0&&aaR sz1 sz&&aaR gK sz&&aaR EE el then
    some (decide (f=es.length)&&decide (len=es.length)&&decide (0≤i∧j=i+1∧i < (es.length:Int)),.de G.length (es.length - 1) 0 sz (es.length - 1),ak G id .dead++[.cg (es.take i.toNat++es.drop (i.toNat+1)) sz el]) else none
  |_=>none
 |_,_=>none
theorem R8 (L:SlLaysE0.n45 E.P ρ) (hp:Plain E.P (ρ.f 45)) (k:Nat) (Kx:0 < k) (z23:∀ w,(Go.sizeOf (ρ.t 23)).run E.P w=.ok k w) (zv:Value) (zc:Array Value) (lF:zv.cells=zc) (v23:∀ w,(zeroValue (ρ.t 23)).run E.P w=.ok zv w) (i0:TypeInfo) (Z1:E.P.info? (ρ.t 23)=some i0) (BH:i0.size=k)
  (z:AV) (BO:∀ (R:ai) (w:World),aL R w z.cells zc.toList) (hzl:z.cells.length=k) (mg:z.aR=true) (hzo:∀ v∈zc.toList,v.oneCell'=true) (hE:E.lo=0) {el:TypeId} :
  ∀ (args:List AV) (G:List GO) (r:AV) (G':List GO),Ox k el args G=some (true,r,G')→cZ E (ρ.f 45) args G (fun r' CQ=>r'=r∧CQ=G'):=by
 intro args G r G' h;unfold Ox at h;split at h
 ·rename_i G1 TC f off sz1 len i j;split at h
  ·rename_i es gK EE hid;split at h
   ·rename_i bI;simp only [aap] at bI;obtain ⟨⟨⟨q1,q2⟩,q3⟩,q4⟩:=bI;have q1:=aao q1;have q2:=aao q2;have q3:=aao q3;have q4:=aao q4;subst q1; subst q2; subst q3; subst q4;injection h with h;injection h with h1 h;injection h with h2 h3;subst h2; subst h3;simp only [aap,decide_eq_true_eq] at h1;obtain ⟨⟨hf,aat⟩,hi0',hj,hi1⟩:=h1;obtain ⟨n,rfl⟩:∃ n:Nat,i=(n:Int):=⟨i.toNat,by omega⟩;obtain rfl:j=((n+1:Nat):Int):=by omega
    rw [Int.toNat_natCast];have hn:n < es.length:=by omega
    refine ⟨hp,fun R w cs hg hl=>callsIn_wide.2 ?_⟩;cases hl with
    | @cons _ cv _ _ r1 hl=>
    cases hl with
    | @cons _ iv _ _ r2 hl=>
    cases hl with
    | @cons _ jv _ _ r3 hl=>
    cases hl;cases r2;cases r3;cases r1 with
    |jO _ _=>omega
    | @de _ _ _ _ _ cap b o' ro ba dG fj=>
    subst hf; subst aat;obtain ⟨b',c',cur,vs,rfl,g1,g2,g3,g4,g5,g6,g7,g8,g9⟩:=n9 hg hid ba (fun k=>by subst k; exact dG);obtain ⟨rfl,Cu,qL⟩:=dG.2 rfl;have Cu:cap=c':=by omega
    subst Cu;have rn:o'=0:=by
     rcases qL with qL|qL
     ·rw [qL,aaS]
     ·omega
    subst rn;have yM:vs.length=es.length * gK:=by rw [← g7.length,bM g1]
    have iz:cur.toList.length=cap * gK:=by rw [show cur.toList.length=cur.size from aaM,g5]
    have hle:es.length * gK≤cap * gK:=aaZ _ g3;have hzz:(aal zc (n+1 - n)).toList=zc.toList:=by rw [show n+1 - n=1 by omega]; exact Ca zc
    have Lz:zc.toList.length=gK:=by rw [← (BO R w).length,hzl]
    have m1:(n+1) * gK=n * gK+gK:=by rw [aa5,Nat.one_mul]
    have m2:es.length * gK=(es.length - 1) * gK+gK:=by rw [← Nat.succ_mul]; congr 1; omega
    have m3:n * gK≤(es.length - 1) * gK:=aaZ _ (by omega);have key:=Eu L gK Kx z23 zv zc lF v23 i0 Z1 BH b 0 cap n (n+1) es.length vs w yM (fun t u hu=>by
      rw [aaN,cell_of_row w b t cur EE (0,0) g2];have bW:t < vs.length:=(aa7.1 hu).1;rw [← g9,List.getElem?_take,if_pos (by omega),Array.getElem?_toList] at hu;exact hu) (fun t _=>by unfold World.frozen?; rw [g2]; simp) g8 (by rw [hzz,Lz,show n+1 - n=1 by omega,Nat.one_mul]) (by rw [hzz]; exact hzo) g3 (by unfold maxLen at g4; omega) (by omega) (by omega)
    refine key.mono fun e w' ⟨e1,e2⟩=>?_
    subst e1;rw [hzz,aaN,aaN,show es.length - (n+1 - n)=es.length - 1 by omega] at *;have P7:w.drew.heap[b]?=some (.cells cur EE (0,0)):=g2;obtain ⟨EW,a1,a2⟩:=qu b EE (vs.drop ((n+1) * gK)) (n * gK) w.drew cur P7 (by rw [aaK,yM,← aaM,iz]; omega);have s1:EW.toList.length=cap * gK:=by
     rw [a2];simp only [aaO,aaI,aaK,yM,iz];omega
    have aeh:(w.drew.setRow b EW).heap[b]?=some (.cells EW EE (0,0)):=setRow_heap _ _ _ _ _ (0,0) P7;obtain ⟨cur2,b1,b2⟩:=qu b EE zc.toList ((es.length - 1) * gK) (w.drew.setRow b EW) EW aeh (by rw [Lz,← aaM,s1]; omega);have s2:cur2.size=cur.size:=by
     rw [← aaM,← aaM,b2];simp only [aaO,aaI,aaK,Lz,s1,iz];omega
    have bl:aY E R w (fun _=>0) ⟨[],[],G,[],none,0⟩ (⟨#[],[]⟩:Act):=
      ⟨hg,⟨fun k cs h=>by simp [dR] at h,fun k k' cs eZ h=>by simp [dR] at h⟩,fun i hi=>absurd rfl hi,rfl,trivial⟩
    have kr:dX gK (es.take n++es.drop (n+1)++[z]):=pg (pg (sk _ g1) (Cs _ g1)) (fun a ha=>by
     rw [List.mem_singleton] at ha;subst ha;exact ⟨hzl,mg⟩)
    obtain ⟨k1,k2⟩:=bl.Hk (es':=es.take n++es.drop (n+1)++[z]) (cur':=cur2) (vs':=vs.take (n * gK)++vs.drop ((n+1) * gK)++zc.toList) hid ba g2 (by simp; omega) kr s2 (by
      rw [bZ,bZ,gn _ g1,n5 _ g1];refine ((g7.take _).append (g7.drop _)).append ?_;simpa [an] using BO R w) (fun v hv=>by
      simp only [abb] at hv;rcases hv with (hv|hv)|hv
      ·exact g8 v (abj hv)
      ·exact g8 v (abi hv)
      ·exact hzo v hv) (by
      have BH:zc.toList.length=es.length * gK - (es.length - 1) * gK:=by rw [Lz]; omega
      have c1:(EW.toList.take ((es.length - 1) * gK))=vs.take (n * gK)++vs.drop ((n+1) * gK):=by
       have c0:cur.toList.take (n * gK)=vs.take (n * gK):=by rw [← g9,abh,abd (by omega)]
       rw [a2,c0,List.take_append_of_le_length (by simp only [aaO,aaI,aaK,yM]; omega),aaW (by simp only [aaO,aaI,aaK,yM]; omega)]
      rw [b2,c1,List.take_append_of_le_length (by simp only [aaO,aaI,aaK,yM,Lz]; omega),aaW (by simp only [aaO,aaI,aaK,yM,Lz]; omega)])
    have e4:w'=(w.setRow b cur2).drew:=by
     rw [e2,a1,b1,setRow_setRow];rfl
    have aau:Below (w.setRow b cur2).heap.size (w.setRow b cur2) w':=by
     rw [e4];exact ⟨rfl,rfl,rfl,aaq _,fun _ _=>rfl⟩
    have TD:(es.take n++es.drop (n+1)++[z]).length=es.length:=by simp; omega
    have Kz:(es.take n++es.drop (n+1)).length=es.length - 1:=by simp; omega
    obtain ⟨k3,k4⟩:=k1.shrink (id:=TC) (m:=es.length - 1) (aj hid) (by rw [TD]; exact ba) (by rw [TD]; omega);have hG:(ak (ak G TC (.cg (es.take n++es.drop (n+1)++[z]) gK EE)) TC .dead++[.cg ((es.take n++es.drop (n+1)++[z]).take (es.length - 1)) gK EE])=ak G TC .dead++[.cg (es.take n++es.drop (n+1)) gK EE]:=by
     rw [Dg,List.take_append_of_le_length (by rw [Kz]; exact aaq _),aaW (by rw [Kz]; exact aaq _)]
    have YV:eY E _ (w.setRow b cur2) (ak (ak G TC (.cg (es.take n++es.drop (n+1)++[z]) gK EE)) TC .dead++[.cg ((es.take n++es.drop (n+1)++[z]).take (es.length - 1)) gK EE]):=k3.g;rw [hG] at YV;have wN:nth ((R.reset TC .none).add (.tok (es.length - 1) b cap 0)).obj G.length=some (.tok (es.length - 1) b cap 0):=by
     rw [← hg.len,← show (R.reset TC .none).obj.length=R.obj.length from cw _ _ _];exact bS _ _
    refine ⟨.de G.length (es.length - 1) 0 gK (es.length - 1),_,_,⟨rfl,rfl⟩,Rel.de wN ⟨aaq _,fun _=>⟨rfl,aaN _,.inl (aaS _).symm⟩⟩ (by omega),Below.acX aau YV hE,(k2.trans k4).trans (Below.Zh aau YV.wf)⟩
   ·cases h
  ·cases h
 ·cases h
end
end Go.Am
