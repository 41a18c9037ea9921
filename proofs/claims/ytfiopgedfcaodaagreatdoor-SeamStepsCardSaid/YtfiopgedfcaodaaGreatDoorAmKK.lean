/- The abstract machine: what a call's arguments read as. -/
import Derived.Test.YtfiopgedfcaodaaGreatDoorAmKJ
import GoSem.ClaimJoined
import Derived.Below
import Derived.ChangeSame
import Derived.Carry
import Derived.RowKit
import Derived.FnData
import Derived.Lib.Builder
import Derived.Lib.UnsafeStr
import Derived.Shelf.Strings.Builder1
import Derived.IntWalk
import Derived.Shelf.SlSortCmp.NoneTotal
set_option linter.all false
namespace Go.Am
open Go
def allR (w:World):Realm:=⟨fun b _=>b < w.heap.size,[]⟩
mutual
def Pat.wf:(p:Pat)→p.T→Prop
 | .int k,(n:Int)=>k.min≤n∧n≤k.max
 | .bool,_=>True
 | .str,(s:List UInt8)=>s.length≤maxLen
 | .agg ps,x=>ps.wf x
 | .tup ps,x=>ps.wf x
 | .list _ p,(xs:List p.T)=>xs.length≤maxLen∧∀ x∈xs,p.wf x
 | .own _ _ p,(xs:List p.T)=>xs.length≤maxLen∧∀ x∈xs,p.wf x
 | .fam _ _ p,(x:Nat × List p.T)=>x.2.length≤maxLen∧∀ y∈x.2,p.wf y
 | .cst _,_=>True
 | .two _ _,_=>True
def Pats.wf:(ps:Pats)→ps.T→Prop
 | .nil,_=>True
 | .cons p .nil,x=>p.wf x
 | .cons p (.cons q ps),x=>p.wf x.1∧(Pats.cons q ps).wf x.2
end
def mkPats:List Pat→Pats
 | []=>.nil
 | p :: l=>.cons p (mkPats l)
def patS {β:Type} (g:β→Option (List Pat)):List β→Option (List Pat)
 | []=>some []
 | x :: l=>match g x,patS g l with
  | some a,some b=>some (a++b)
  | _,_=>none
def tiles {β:Type} (off len:β→Nat):Nat→List β→Option Nat
 | o,[]=>some o
 | o,x :: l=>bif Nat.beq (off x) o then tiles off len (o+len x) l else none
def isSome (n:Nat):Option Nat→Bool
 | some m=>Nat.beq m n
 | none=>false
def elemPat (ag:Bool) (ps:List Pat):Option Pat:=match ag,ps with
 | true,ps=>some (.agg (mkPats ps))
 | false,[p]=>some p
 | _,_=>none
def patF (P:Program):Nat→TypeId→Option (List Pat)
 | 0,_=>none
 | n+1,t=>match P.underlying t with
  | some .bool=>some [.bool]
  | some (.int k)=>some [.int k]
  | some .string=>some [.str]
  | some (.slice e)=>match patF P n e,P.underlying e with
   | some ps,some u=>match elemPat (Go.Am.aggD u) ps with
    | some pe=>bif Nat.blt 0 (P.cellsOf e) then some [.list (P.cellsOf e) pe] else none
    | none=>none
   | _,_=>none
  | some (.struct fs)=>bif isSome (P.cellsOf t) (tiles Field.offset (fun f=>P.cellsOf f.type) 0 fs.toList) then patS (fun f=>patF P n f.type) fs.toList else none
  | some (.array m e)=>bif isSome (P.cellsOf t) (tiles (fun i=>i * P.cellsOf e) (fun _=>P.cellsOf e) 0 (List.range m)) then patS (fun _=>patF P n e) (List.range m) else none
  | _=>none
def Leaf (a:AV):Prop:=a.notTup=true∧a.cells=[a]∧a.closed=true
def FitF:List Pat→List AV→Prop
 | [],[]=>True
 | p :: ps,a :: ags=>p.fits a=true∧(p.wf (p.decD a)∧Leaf a)∧FitF ps ags
 | _,_=>False
theorem FitF.append:∀ {ps qs:List Pat} {ags bs:List AV},FitF ps ags→FitF qs bs→FitF (ps++qs) (ags++bs)
 | [],_,[],_,_,h=>h
 | _ :: _,_,_ :: _,_,k,h=>⟨k.1,k.2.1,FitF.append k.2.2 h⟩
 | [],_,_ :: _,_,h,_=>h.elim
 | _ :: _,_,[],_,h,_=>h.elim
theorem FitF.mk:∀ {ps:List Pat} {ags:List AV},FitF ps ags→(mkPats ps).fits ags=true∧(mkPats ps).wf ((mkPats ps).decD ags)
 | [],[],_=>⟨rfl,trivial⟩
 | [p],[a],h=>⟨by
   change (p.fits a&&(List.isEmpty ([]:List AV)))=true
   rw [h.1]
   rfl,h.2.1.1⟩
 | p :: q :: ps,a :: ags,h=>by
  obtain ⟨h1,h2⟩:=FitF.mk (ps:=q :: ps) h.2.2
  refine ⟨?_,h.2.1.1,h2⟩
  change (p.fits a&&(mkPats (q :: ps)).fits ags)=true
  rw [h.1,h1]
  rfl
 | [],_ :: _,h=>h.elim
 | _ :: _,[],h=>h.elim
 | [_],_ :: _ :: _,h=>h.2.2.elim
theorem elem_fit {ag:Bool} {ps:List Pat} {pe:Pat} (h:elemPat ag ps=some pe) {ags:List AV} (hf:FitF ps ags) :
  ∃ e,(if ag then e=.agg ags else ags=[e])∧pe.fits e=true∧pe.wf (pe.decD e):=by
 unfold elemPat at h
 split at h
 ·cases h
  obtain ⟨h1,h2⟩:=hf.mk
  exact ⟨.agg ags,rfl,h1,h2⟩
 ·rename_i p
  cases h
  match ags,hf with
  | [a],hf=>exact ⟨a,rfl,hf.1,hf.2.1.1⟩
  | [],hf=>exact hf.elim
  | _ :: _ :: _,hf=>exact hf.2.2.elim
 ·cases h
theorem fit_tup:∀ {ps:List Pat} {ags:List AV},FitF ps ags→∀ a∈ags,a.notTup=true∧a.cells=[a]∧a.closed=true
 | [],[],_,a,ha=>by simp at ha
 | _ :: _,b :: ags,hf,a,ha=>by
  rcases List.mem_cons.1 ha with rfl | ha
  ·exact hf.2.1.2
  ·exact fit_tup hf.2.2 a ha
 | [],_ :: _,h,_,_=>h.elim
 | _ :: _,[],h,_,_=>h.elim
theorem all_fit {pe:Pat}:∀ {es:List AV},(∀ x∈es,pe.fits x=true∧pe.wf (pe.decD x))→allFit pe.fits es=true∧∀ x∈es.map pe.decD,pe.wf x
 | [],_=>⟨rfl,by simp⟩
 | a :: es,h=>by
  obtain ⟨h1,h2⟩:=all_fit (es:=es) fun x hx=>h x (by simp [hx])
  refine ⟨by simp only [allFit,Bool.and_eq_true]; exact ⟨(h a (by simp)).1,h1⟩,fun x hx=>?_⟩
  rcases List.mem_cons.1 hx with rfl | hx
  ·exact (h a (by simp)).2
  ·exact h2 x hx
section read
variable {H:Type} {enc:TypeId × Value→H} {P:Program} {w:World} {R:Realm} {base:Nat} {spare:Nat→Bool} {held:Bool}
theorem mapM_cons_some {α β:Type} {f:α→Option β} {x:α} {l:List α} {r:List β} (h:(x :: l).mapM f=some r):∃ y ys,f x=some y∧l.mapM f=some ys∧r=y :: ys:=by
 rw [List.mapM_cons] at h
 cases hx:f x with
 | none=>rw [hx] at h; cases h
 | some y=>
  rw [hx] at h
  cases hl:l.mapM f with
  | none=>rw [hl] at h; cases h
  | some ys=>rw [hl] at h; cases h; exact ⟨y,ys,rfl,rfl,rfl⟩
theorem segs_rel {β:Type} {off len:β→Nat} {g:β→Option (List Pat)} {cs:List Value} {f:β→Option (DataW H × List MemPlace)}
  (hf:∀ x ps y,g x=some ps→f x=some y→∃ ags,RelL R w ags ((cs.drop (off x)).take (len x))∧FitF ps ags∧∀ v∈(cs.drop (off x)).take (len x),v.oneCell'=true) :
  ∀ {L:List β} {o m:Nat} {ps:List Pat} {ys:List (DataW H × List MemPlace)},tiles off len o L=some m→patS g L=some ps→L.mapM f=some ys →
   o≤m∧∃ ags,RelL R w ags ((cs.drop o).take (m - o))∧FitF ps ags∧∀ v∈(cs.drop o).take (m - o),v.oneCell'=true
 | [],o,m,ps,ys,ht,hp,_=>by
  simp only [tiles] at ht
  simp only [patS] at hp
  cases ht; cases hp
  exact ⟨Nat.le_refl _,[],by simpa using RelL.nil,trivial,by simp⟩
 | x :: L,o,m,ps,ys,ht,hp,hm=>by
  unfold tiles at ht
  cases hb:Nat.beq (off x) o with
  | false=>rw [hb] at ht; cases ht
  | true=>
   rw [hb] at ht
   have hb:=Nat.eq_of_beq_eq_true hb
   unfold patS at hp
   split at hp
   ·rename_i pa pb h1 h2
    cases hp
    obtain ⟨y,ys',k1,k2,rfl⟩:=mapM_cons_some hm
    obtain ⟨ags,q1,q2,q3⟩:=hf x pa y h1 k1
    obtain ⟨hle,bs,r1,r2,r3⟩:=segs_rel hf (show tiles off len (o+len x) L=some m from ht) h2 k2
    have e:(cs.drop o).take (m - o)=(cs.drop (off x)).take (len x)++(cs.drop (o+len x)).take (m - (o+len x)):=by
     rw [hb,show m - o=len x+(m - (o+len x)) by omega,List.take_add,List.drop_drop]
    rw [e]
    refine ⟨by omega,ags++bs,q1.append r1,q2.append r2,fun v hv=>?_⟩
    rcases List.mem_append.1 hv with hv | hv
    ·exact q3 v hv
    ·exact r3 v hv
   ·cases hp
theorem mapM_get {α β:Type} {f:α→Option β}:∀ {l:List α} {r:List β},l.mapM f=some r→∀ (i:Nat) (x:α),l[i]?=some x→∃ y,r[i]?=some y∧f x=some y
 | [],r,_,i,x,hx=>by simp at hx
 | a :: l,r,h,i,x,hx=>by
  obtain ⟨y,ys,h1,h2,rfl⟩:=mapM_cons_some h
  cases i with
  | zero=>simp at hx; subst hx; exact ⟨y,by simp,h1⟩
  | succ i=>obtain ⟨z,h3,h4⟩:=mapM_get h2 i x (by simpa using hx); exact ⟨z,by simpa using h3,h4⟩
theorem mapM_length {α β:Type} {f:α→Option β}:∀ {l:List α} {r:List β},l.mapM f=some r→r.length=l.length
 | [],r,h=>by simp at h; subst h; rfl
 | a :: l,r,h=>by
  obtain ⟨y,ys,h1,h2,rfl⟩:=mapM_cons_some h
  simp [mapM_length h2]
theorem cell_lt {a:Addr} {v:Value} (h:w.cell? a=some v):a.block < w.heap.size:=by
 unfold World.cell? at h
 split at h
 ·rename_i hb; exact block_lt hb
 ·cases h
theorem elems_rel {e:TypeId} {ps:List Pat} {pe:Pat} {ag:Bool} {fuel:Nat} (hp:∀ (cs:List Value) (y:DataW H × List MemPlace),DataW.trod enc P w base spare held fuel e cs=some y→∃ ags,RelL (allR w) w ags cs∧FitF ps ags∧∀ v∈cs,v.oneCell'=true) (he:elemPat ag ps=some pe) {b off len:Nat} {r:List (DataW H × List MemPlace)}
  (h:(List.range len).mapM (fun i=>(w.cells? base ((⟨b,off,none⟩:Addr).add (i * P.cellsOf e)) (P.cellsOf e)).bind (DataW.trod enc P w base spare held fuel e))=some r) :
  ∀ (m i:Nat),i+m=len→∃ es,RelE (allR w) w b (off+i * P.cellsOf e) (P.cellsOf e) es∧es.length=m∧∀ x∈es,pe.fits x=true∧pe.wf (pe.decD x)
 | 0,i,_=>⟨[],.nil,rfl,by simp⟩
 | m+1,i,hi=>by
  obtain ⟨es,h1,h2,h3⟩:=elems_rel hp he h m (i+1) (by omega)
  obtain ⟨y,_,hy⟩:=mapM_get h i i (by rw [List.getElem?_range (by omega)])
  obtain ⟨cs,hc,hy⟩:=bind_some hy
  obtain ⟨ags,q1,q2,q3⟩:=hp _ _ hy
  obtain ⟨x,hx,f1,f2⟩:=elem_fit he q2
  have hcells:w.cells? base ((⟨b,off,none⟩:Addr).add (i * P.cellsOf e)) (P.cellsOf e)=some cs:=hc
  unfold World.cells? at hcells
  split at hcells
  ·have hlen:=mapM_length hcells
   rw [List.length_range] at hlen
   have hcl:x.cells=ags∧x.notTup=true∧x.closed=true:=by
    have hall:=fit_tup q2
    cases ag with
    | true=>
     simp only [if_true] at hx
     subst hx
     refine ⟨rfl,rfl,?_⟩
     show closedL ags=true
     clear h1 h2 h3 q1 q2 f1 f2
     induction ags with
     | nil=>rfl
     | cons a ags ih=>simp only [closedL,Bool.and_eq_true]; exact ⟨(hall a (by simp)).2.2,ih (fun z hz=>hall z (by simp [hz]))⟩
    | false=>
     simp only [Bool.false_eq_true,if_false] at hx
     subst hx
     obtain ⟨k1,k2,k3⟩:=hall x (by simp)
     exact ⟨k2,k1,k3⟩
   have hget:∀ j v,cs[j]?=some v→w.cell? ⟨b,off+i * P.cellsOf e+j,none⟩=some v:=fun j v hv=>by
    have hj:j < P.cellsOf e:=by have:=(List.getElem?_eq_some_iff.1 hv).1; omega
    obtain ⟨v',k1,k2⟩:=mapM_get hcells j j (by rw [List.getElem?_range hj])
    rw [hv] at k1
    cases k1
    rw [addr_add,addr_add] at k2
    exact k2
   refine ⟨x :: es,.cons ?_ hcl.2.1 hcl.2.2 ?_ ?_,by simp [h2],fun z hz=>?_⟩
   ·rw [hcl.1,q1.length,hlen]
   ·rw [hcl.1]
    refine RelC.make q1 q3 hget (fun j hj=>?_)
    have hj':j < cs.length:=by rw [← q1.length]; exact hj
    exact cell_lt (hget j cs[j] (List.getElem?_eq_getElem hj'))
   ·rw [show off+i * P.cellsOf e+P.cellsOf e=off+(i+1) * P.cellsOf e by rw [Nat.add_mul]; omega]
    exact h1
   ·rcases List.mem_cons.1 hz with rfl | hz
    ·exact ⟨f1,f2⟩
    ·exact h3 z hz
  ·cases hcells
theorem flat_rel (hsp:∀ b,spare b=true):∀ (n:Nat) {t:TypeId} {ps:List Pat},patF P n t=some ps→∀ {fuel:Nat} {cs:List Value} {y:DataW H × List MemPlace},DataW.trod enc P w base spare held fuel t cs=some y →
  ∃ ags,RelL (allR w) w ags cs∧FitF ps ags∧∀ v∈cs,v.oneCell'=true
 | 0,_,_,h,_,_,_,_=>by cases h
 | n+1,t,ps,h,0,_,_,hy=>by cases hy
 | n+1,t,ps,h,fuel+1,cs,y,hy=>by
  unfold patF at h
  unfold DataW.trod at hy
  split at h
  ·rename_i hu
   cases h
   rw [hu] at hy
   cases cs with
   | nil=>cases hy
   | cons v l=>
    cases l with
    | cons v2 l=>(cases v <;> first | (cases hy; done) | (rename_i a; cases a <;> cases hy; done) | (rename_i a b; cases a <;> cases hy; done) | (rename_i a b c; cases a <;> first | (cases hy; done) | (cases b <;> first | (cases hy; done) | (cases c <;> cases hy))))
    | nil=>
     cases v with
     | bool b=>exact ⟨[.bool b],.one (.bool b),⟨rfl,⟨trivial,rfl,rfl,rfl⟩,trivial⟩,by simp [Value.oneCell']⟩
     | pointer a=>cases a <;> cases hy
     | slice a b c=>cases a <;> first | (cases hy; done) | (cases b <;> first | (cases hy; done) | (cases c <;> cases hy))
     | map a=>cases a <;> cases hy
     | chan a=>cases a <;> cases hy
     | _=>cases hy
  ·rename_i k hu
   cases h
   rw [hu] at hy
   cases cs with
   | nil=>cases hy
   | cons v l=>
    cases l with
    | cons v2 l=>(cases v <;> first | (cases hy; done) | (rename_i a; cases a <;> cases hy; done) | (rename_i a b; cases a <;> cases hy; done) | (rename_i a b c; cases a <;> first | (cases hy; done) | (cases b <;> first | (cases hy; done) | (cases c <;> cases hy))))
    | nil=>
     cases v with
     | int k' i=>
      have hy:(if k'=k∧(Lit.int k i).wf=true then some (.lit (.int k i),[]) else none)=some y:=hy
      split at hy
      ·rename_i hc
       obtain ⟨rfl,hw⟩:=hc
       exact ⟨[.int k' i],.one (.int k' i),⟨decide_eq_true rfl,⟨by have h:=hw; simp [Lit.wf] at h; exact h,rfl,rfl,rfl⟩,trivial⟩,by simp [Value.oneCell']⟩
      ·cases hy
     | pointer a=>cases a <;> cases hy
     | slice a b c=>cases a <;> first | (cases hy; done) | (cases b <;> first | (cases hy; done) | (cases c <;> cases hy))
     | map a=>cases a <;> cases hy
     | chan a=>cases a <;> cases hy
     | _=>cases hy
  ·rename_i hu
   cases h
   rw [hu] at hy
   cases cs with
   | nil=>cases hy
   | cons v l=>
    cases l with
    | cons v2 l=>(cases v <;> first | (cases hy; done) | (rename_i a; cases a <;> cases hy; done) | (rename_i a b; cases a <;> cases hy; done) | (rename_i a b c; cases a <;> first | (cases hy; done) | (cases b <;> first | (cases hy; done) | (cases c <;> cases hy))))
    | nil=>
     cases v with
     | string s=>
      have hy:(if s.size≤maxLen then some (.lit (.string s.data.toList),[]) else none)=some y:=hy
      split at hy
      ·rename_i hc
       exact ⟨[.str s.data.toList],.one (.str s.data.toList),⟨rfl,⟨by simpa [Pat.wf,Pat.decD,AV.strD] using hc,rfl,rfl,rfl⟩,trivial⟩,by simp [Value.oneCell']⟩
      ·cases hy
     | pointer a=>cases a <;> cases hy
     | slice a b c=>cases a <;> first | (cases hy; done) | (cases b <;> first | (cases hy; done) | (cases c <;> cases hy))
     | map a=>cases a <;> cases hy
     | chan a=>cases a <;> cases hy
     | _=>cases hy
  ·rename_i e hu
   rw [hu] at hy
   split at h
   ·rename_i ps' u h1 h2
    split at h
    ·rename_i pe h3
     obtain ⟨hz,h⟩:=cond_some h
     cases h
     have hz:=Nat.le_of_ble_eq_true hz
     cases cs with
     | nil=>cases hy
     | cons v l=>
      cases l with
      | cons v2 l=>(cases v <;> first | (cases hy; done) | (rename_i a; cases a <;> cases hy; done) | (rename_i a b; cases a <;> cases hy; done) | (rename_i a b c; cases a <;> first | (cases hy; done) | (cases b <;> first | (cases hy; done) | (cases c <;> cases hy))))
      | nil=>
       cases v with
       | slice a len cap=>
        cases a with
        | none=>
         have hz:len=0∧cap=0:=by
          cases len with
          | zero=>cases cap with
           | zero=>exact ⟨rfl,rfl⟩
           | succ _=>cases hy
          | succ _=>cases hy
         obtain ⟨rfl,rfl⟩:=hz
         exact ⟨[.list .opn (P.cellsOf e) []],.one .lopn,⟨by simp [Pat.fits,allFit],⟨⟨Nat.zero_le _,fun x hx=>by change x∈([]:List pe.T) at hx; cases hx⟩,rfl,rfl,rfl⟩,trivial⟩,by simp [Value.oneCell']⟩
        | some a=>
         have hy:(if base≤a.block∧len≤cap∧cap≤maxLen then
          ((List.range len).mapM (fun i=>(w.cells? base (a.add (i * P.cellsOf e)) (P.cellsOf e)).bind (DataW.trod enc P w base spare held fuel e))).bind fun elems=>
           (if spare a.block then (List.range (cap - len)).mapM (fun j=>(w.cells? base (a.add ((len+j) * P.cellsOf e)) (P.cellsOf e)).bind (DataW.trod enc P w base spare held fuel e)) else some []).map fun rest=>
            (DataW.slice (elems.map (·.1)) (rest.map (·.1)),MemPlace.row a ((elems.length+rest.length) * P.cellsOf e)++(elems++rest).flatMap (·.2))
          else none)=some y:=hy
         split at hy
         ·rename_i hc
          obtain ⟨elems,k1,hy⟩:=bind_some hy
          rw [if_pos (hsp _)] at hy
          by_cases hcap:cap=0
          ·subst hcap
           have hl0:len=0:=Nat.le_zero.1 hc.2.1
           subst hl0
           exact ⟨[.list .opn (P.cellsOf e) []],.one .lemp,⟨by simp [Pat.fits,allFit],⟨⟨Nat.zero_le _,fun x hx=>by change x∈([]:List pe.T) at hx; cases hx⟩,rfl,rfl,rfl⟩,trivial⟩,by simp [Value.oneCell']⟩
          ·have hspot:a.spot=none:=by
            have hany:∃ y,(w.cells? base (a.add (0 * P.cellsOf e)) (P.cellsOf e)).bind (DataW.trod enc P w base spare held fuel e)=some y:=by
             by_cases hl0:len=0
             ·subst hl0
              cases hr:(List.range (cap - 0)).mapM (fun j=>(w.cells? base (a.add ((0+j) * P.cellsOf e)) (P.cellsOf e)).bind (DataW.trod enc P w base spare held fuel e)) with
              | none=>rw [hr] at hy; cases hy
              | some r=>
               obtain ⟨z,_,hz⟩:=mapM_get hr 0 0 (by rw [List.getElem?_range (by omega)])
               exact ⟨z,hz⟩
             ·obtain ⟨z,_,hz⟩:=mapM_get k1 0 0 (by rw [List.getElem?_range (by omega)])
              exact ⟨z,hz⟩
            obtain ⟨z,hz'⟩:=hany
            obtain ⟨cs,hcs,_⟩:=bind_some hz'
            unfold World.cells? at hcs
            split at hcs
            ·obtain ⟨v,_,hv⟩:=mapM_get hcs 0 0 (by rw [List.getElem?_range (by omega)])
             rw [Nat.zero_mul] at hv
             unfold World.cell? at hv
             split at hv
             ·split at hv
              ·cases hv
              ·rename_i hs
               simpa [Addr.add] using hs
             ·cases hv
            ·cases hcs
           obtain ⟨b,off,spot⟩:=a
           have hspot:spot=none:=hspot
           subst hspot
           obtain ⟨es,q1,q2,q3⟩:=elems_rel (fun cs y hy=>flat_rel hsp n h1 hy) h3 k1 len 0 (by omega)
           rw [Nat.zero_mul,Nat.add_zero] at q1
           obtain ⟨f1,f2⟩:=all_fit q3
           refine ⟨[.list .opn (P.cellsOf e) es],.one (.list q1 q2.symm hc.2.1 trivial),⟨?_,⟨⟨?_,f2⟩,rfl,rfl,rfl⟩,trivial⟩,by simp [Value.oneCell']⟩
           ·simp only [Pat.fits,Bool.and_eq_true,Bool.or_eq_true]
            exact ⟨.inl (Nat.beq_refl _),f1⟩
           ·have:es.length≤maxLen:=by rw [q2]; omega
            show (es.map pe.decD).length≤maxLen
            rw [List.length_map]
            exact this
         ·cases hy
       | pointer a=>cases a <;> cases hy
       | map a=>cases a <;> cases hy
       | chan a=>cases a <;> cases hy
       | _=>cases hy
    ·cases h
   ·cases h
  ·rename_i fs hu
   rw [hu] at hy
   have hy:(if cs.length=P.cellsOf t then (fs.toList.mapM fun f=>DataW.trod enc P w base spare held fuel f.type ((cs.drop f.offset).take (P.cellsOf f.type))).map fun xs=>(.agg (xs.map (·.1)),xs.flatMap (·.2)) else none)=some y:=hy
   split at hy
   ·rename_i hl
    obtain ⟨h1,h2⟩:=cond_some h
    cases hm:fs.toList.mapM fun f=>DataW.trod enc P w base spare held fuel f.type ((cs.drop f.offset).take (P.cellsOf f.type)) with
    | none=>rw [hm] at hy; cases hy
    | some ys=>
     cases ht:tiles Field.offset (fun f=>P.cellsOf f.type) 0 fs.toList with
     | none=>rw [ht] at h1; cases h1
     | some m=>
      rw [ht] at h1
      have h1:=Nat.eq_of_beq_eq_true (show Nat.beq m (P.cellsOf t)=true from h1)
      obtain ⟨_,ags,q1,q2,q3⟩:=segs_rel (R:=allR w) (w:=w) (off:=Field.offset) (len:=fun f=>P.cellsOf f.type) (cs:=cs) (fun x ps y hx hy'=>flat_rel hsp n hx hy') ht h2 hm
      rw [h1,← hl] at q1 q3
      simp only [List.drop_zero,Nat.sub_zero,List.take_length] at q1 q3
      exact ⟨ags,q1,q2,q3⟩
   ·cases hy
  ·rename_i m e hu
   rw [hu] at hy
   have hy:(if cs.length=P.cellsOf t then ((List.range m).mapM fun i=>DataW.trod enc P w base spare held fuel e ((cs.drop (i * P.cellsOf e)).take (P.cellsOf e))).map fun xs=>(.agg (xs.map (·.1)),xs.flatMap (·.2)) else none)=some y:=hy
   split at hy
   ·rename_i hl
    obtain ⟨h1,h2⟩:=cond_some h
    cases hm:(List.range m).mapM fun i=>DataW.trod enc P w base spare held fuel e ((cs.drop (i * P.cellsOf e)).take (P.cellsOf e)) with
    | none=>rw [hm] at hy; cases hy
    | some ys=>
     cases ht:tiles (fun i=>i * P.cellsOf e) (fun _=>P.cellsOf e) 0 (List.range m) with
     | none=>rw [ht] at h1; cases h1
     | some k=>
      rw [ht] at h1
      have h1:=Nat.eq_of_beq_eq_true (show Nat.beq k (P.cellsOf t)=true from h1)
      obtain ⟨_,ags,q1,q2,q3⟩:=segs_rel (R:=allR w) (w:=w) (off:=fun i=>i * P.cellsOf e) (len:=fun _=>P.cellsOf e) (cs:=cs) (fun x ps y hx hy'=>flat_rel hsp n hx hy') ht h2 hm
      rw [h1,← hl] at q1 q3
      simp only [List.drop_zero,Nat.sub_zero,List.take_length] at q1 q3
      exact ⟨ags,q1,q2,q3⟩
   ·cases hy
  ·cases h
def patV (P:Program) (n:Nat) (t:TypeId):Option Pat:=match P.underlying t with
 | some u=>match patF P n t with
  | some ps=>elemPat (Go.Am.aggD u) ps
  | none=>none
 | none=>none
theorem arg_rel (hsp:∀ b,spare b=true) {n:Nat} {t:TypeId} {p:Pat} (hp:patV P n t=some p) {v:Value} {d:DataW H} {pl:List MemPlace} {r:Reach} {base':Nat} (ht:DataW.Trod enc P w base spare held t v d pl) (hok:Value.okWide P w r base' t v) :
  ∃ x:p.T,Rel (allR w) w (p.enc x) v∧p.wf x:=by
 obtain ⟨fuel,ht⟩:=ht
 have fin:∀ {a:AV},p.fits a=true→p.wf (p.decD a)→Rel (allR w) w a v→∃ x:p.T,Rel (allR w) w (p.enc x) v∧p.wf x:=fun {a} h1 h2 h3=>⟨p.decD a,(p.fits_ok h1).weak _ _ _ h3,h2⟩
 unfold patV at hp
 split at hp
 ·rename_i u hu
  split at hp
  ·rename_i ps h1
   obtain ⟨ags,q1,q2,q3⟩:=flat_rel hsp n h1 ht
   obtain ⟨x,hx,f1,f2⟩:=elem_fit hp q2
   cases hag:Go.Am.aggD u with
   | true=>
    rw [hag] at hx
    simp only [if_true] at hx
    subst hx
    have:∃ cs,v=.agg cs:=by
     unfold Value.okWide at hok
     rw [hu] at hok
     cases u <;> first | (cases hag; done) | (obtain ⟨cs,h,_⟩:=hok; exact ⟨cs,h⟩)
    obtain ⟨⟨cs⟩,rfl⟩:=this
    exact fin f1 f2 (.agg q1 q3)
   | false=>
    rw [hag] at hx
    simp only [Bool.false_eq_true,if_false] at hx
    subst hx
    have hv:v.cells.toList=[v]:=by
     cases v with
     | agg cs=>
      exfalso
      unfold Value.okWide at hok
      rw [hu] at hok
      cases u <;> first | (cases hag; done) | (simp [Cell.okWide,Cell.ok,hu] at hok)
     | _=>rfl
    rw [hv] at q1
    cases q1 with
    | cons q1 _=>exact fin f1 f2 q1
  ·cases hp
 ·cases hp
def patVs (P:Program) (n:Nat):List TypeId→Option (List Pat)
 | []=>some []
 | t :: l=>match patV P n t,patVs P n l with
  | some p,some r=>some (p :: r)
  | _,_=>none
theorem args_rel (hsp:∀ b,spare b=true) {n:Nat} {r:Reach} {base':Nat}:∀ {ts:List TypeId} {ps:List Pat} {vs:List Value} {ds:List (DataW H)} {pl:List MemPlace},patVs P n ts=some ps→DataW.TrodAll enc P w base spare held ts vs ds pl →
  (∀ (j:Nat) t v,ts[j]?=some t→vs[j]?=some v→Value.okWide P w r base' t v)→∃ x:(mkPats ps).T,RelL (allR w) w ((mkPats ps).enc x) vs∧(mkPats ps).wf x
 | [],ps,vs,ds,pl,hp,ht,_=>by
  simp only [patVs] at hp
  cases hp
  cases vs with
  | nil=>exact ⟨(),.nil,trivial⟩
  | cons _ _=>cases ds <;> exact ht.elim
 | t :: ts,ps,vs,ds,pl,hp,ht,hok=>by
  unfold patVs at hp
  split at hp
  ·rename_i p r h1 h2
   cases hp
   cases vs with
   | nil=>cases ds <;> exact ht.elim
   | cons v vs=>
    cases ds with
    | nil=>exact ht.elim
    | cons d ds=>
     obtain ⟨p1,p2,k1,k2,_⟩:=ht
     obtain ⟨x,q1,q2⟩:=arg_rel hsp h1 k1 (hok 0 t v rfl rfl)
     obtain ⟨y,q3,q4⟩:=args_rel hsp h2 k2 (fun j t v hj hv=>hok (j+1) t v (by simpa using hj) (by simpa using hv))
     cases r with
     | nil=>
      cases q3
      exact ⟨x,.one q1,q2⟩
     | cons p' r=>exact ⟨(x,y),.cons q1 q3,q2,q4⟩
  ·cases hp
end read
end Go.Am
namespace Go.Am
open Go Go.RowKit Go.WideShapes Go.ChangeShapes
section
variable {H:Type} {enc:TypeId × Value→H} {P:Program}
theorem post_below {f:Func} {s:ChangeSpec} {apart fresh handsOn again:Bool} {W W':World} {args:Array Value} {v:Value} {ds gs:List (DataW H)} {before pa pv:List MemPlace}
  (hW:DataW.Whole enc P f.params.toList s.vars apart W args.toList ds gs before)
  (hres:∀ (b:Nat) (sp:Nat→Bool) (hd:Bool),DataW.TrodAll enc P W' b sp hd f.resultTypes.toList (v.resultList f.resultTypes.size) (s.fn H (ds++gs)).results [])
  (hargs:∀ sp:Nat→Bool,(∀ p∈before,sp p.block=true)→DataW.TrodAll enc P W' 0 sp true f.params.toList args.toList (s.fn H (ds++gs)).args pa)
  (hvars:∀ sp:Nat→Bool,(∀ p∈before,sp p.block=true)→DataW.TrodVars enc P W' sp s.vars (s.fn H (ds++gs)).vars pv)
  (hps:before=pa++pv) (hb:Below W.heap.size W W')
  (hok:∀ (j:Nat) (t:TypeId) (r:Value),f.resultTypes[j]?=some t→(v.resultList f.resultTypes.size)[j]?=some r→Value.okWide P W' .any 0 t r) :
  s.post enc P f apart fresh handsOn again W args v W':=by
 have hlt:∀ p∈before,p.block < W.heap.size:=fun p hp=>hW.lt p hp
 have hold:∀ p∈before,(fun b=>decide (b < W.heap.size)) p.block=true:=fun p hp=>by simpa using hlt p hp
 refine ⟨ds,gs,before,[],pa,pv,hW,hres _ _ _,hargs _ hold,hvars _ hold,World.keptBut_mono (fun p hp=>⟨hp,?_⟩) (hb.frame (·∈before)),fun _=>?_⟩
 ·rw [hps,List.mem_append] at hp
  exact Or.inr hp
 ·obtain ⟨_,_,_,_,_,hz,hn⟩:=hW
  refine ⟨hok,_,_,([]++pa)++pv,⟨[]++pa,pv,trodAll_append (hargs _ (fun _ _=>rfl)) (hres _ _ _),hvars _ (fun _ _=>rfl),rfl,?_,?_⟩,?_⟩
  ·intro b off hp
   have hin:MemPlace.cell b off∈before:=by rw [hps]; simpa using hp
   rw [hb.frozen (hlt _ hin)]
   exact hz b off hin
  ·intro ha
   have:=hn ha
   rw [hps] at this
   simpa using this
  ·intro p hp _
   rw [hps]
   simpa using hp
theorem trodAll_stays (hl:laidOutB P=true) {W W':World} (hb:Below W.heap.size W W') {sp:Nat→Bool}:∀ {ts:List TypeId} {vs:List Value} {ds:List (DataW H)} {pl:List MemPlace},
  (∀ t∈ts,P.readableRec t=true∧t < P.types.size)→DataW.TrodAll enc P W 0 (fun _=>true) true ts vs ds pl→(∀ p∈pl,p.block < W.heap.size)→(∀ p∈pl,sp p.block=true) →
  DataW.TrodAll enc P W' 0 sp true ts vs ds pl
 | [],[],[],_,_,h,_,_=>h
 | t :: ts,v :: vs,d :: ds,pl,hr,h,hlt,hsp=>by
  obtain ⟨p,q,h1,h2,rfl⟩:=h
  refine ⟨p,q,?_,trodAll_stays hl hb (fun t ht=>hr t (by simp [ht])) h2 (fun x hx=>hlt x (by simp [hx])) (fun x hx=>hsp x (by simp [hx])),rfl⟩
  exact WideElems.Trod_stays hl (hr t (by simp)).1 (hr t (by simp)).2 h1 (fun x hx=>hb.same (hlt x (by simp [hx]))) (fun x hx=>hsp x (by simp [hx]))
 | [],[],_ :: _,_,_,h,_,_=>h.elim
 | [],_ :: _,_,_,_,h,_,_=>h.elim
 | _ :: _,[],_,_,_,h,_,_=>h.elim
 | _ :: _,_ :: _,[],_,_,h,_,_=>h.elim
theorem law_calls {E:Env} {f:FuncId} {fn:Func} {s:ChangeSpec} {ps:List Pat} {apart fresh handsOn again:Bool} {W:World} {base:Nat} {args:Array Value} {ds gs:List (DataW H)} {before:List MemPlace} {n tb:Nat}
  (hent:∀ x,(mkPats ps).wf x→PCalls E f ((mkPats ps).enc x) (fun r=>r=.bool true)) (hpat:patVs E.P n fn.params.toList=some ps)
  (hval:∀ (j:Nat) t v,fn.params[j]?=some t→args[j]?=some v→Value.okWide E.P W .any base t v)
  (hW:DataW.Whole enc E.P fn.params.toList s.vars apart W args.toList ds gs before) (hglob:∀ g cs,E.glob g=some cs→RelC (allR W) W g 0 cs)
  (hvars:s.vars=[]) (hsp:∀ ds:List (DataW H),ds.length=fn.params.toList.length→s.fn H ds={ results:=[.lit (.bool true)],args:=ds })
  (hres:fn.resultTypes=#[tb]) (hub:E.P.underlying tb=some .bool) (hl:laidOutB E.P=true) (hr:∀ t∈fn.params.toList,E.P.readableRec t=true∧t < E.P.types.size) (hlo:E.lo=0:=by rfl) :
  Calls E.P f args W fun e W'=>∃ v,e=.returned v∧s.post enc E.P fn apart fresh handsOn again W args v W':=by
 have hW0:=hW
 obtain ⟨p,q,hA,hV,rfl,hfz,hnd⟩:=hW
 obtain ⟨rfl,rfl⟩:gs=[]∧q=[]:=by
  rw [hvars] at hV
  cases gs with
  | nil=>exact ⟨rfl,hV⟩
  | cons g r=>exact absurd hV (by intro h; cases h)
 obtain ⟨x,hx,hwf⟩:=args_rel (fun _=>rfl) (n:=n) hpat hA (r:=.any) (base':=base) (fun j t v hj hv=>hval j t v (by simpa using hj) (by simpa using hv))
 have hlen:ds.length=fn.params.toList.length:=by
  clear hval hfz hnd hW0 hx hwf hsp hpat hr
  revert hA
  generalize fn.params.toList=ts
  generalize args.toList=vs
  generalize p=pl
  clear p
  intro hA
  induction ts generalizing vs ds pl with
  | nil=>cases vs <;> cases ds <;> first | rfl | exact hA.elim
  | cons t ts ih=>
   cases vs with
   | nil=>cases ds <;> exact hA.elim
   | cons v vs=>
    cases ds with
    | nil=>exact hA.elim
    | cons d ds=>
     obtain ⟨p,q,_,h2,_⟩:=hA
     simp [ih vs q h2]
 have hG:RepG E (allR W) W []:=⟨rfl,fun id go ro h=>by simp [nth] at h,fun i j ri rj b h=>by simp [allR,nth] at h,fun b o h=>h,hglob,by rw [hlo]; exact Nat.zero_le _⟩
 have hc:=(hent x hwf [])
 refine (callsIn_wide.1 (hc.2 (allR W) W args.toList hG hx)).mono fun e W' he=>?_
 cases e with
 | panicked c=>exact he.elim
 | outgrown=>exact he.elim
 | returned c=>
  obtain ⟨r,G',R',⟨_,rfl⟩,hrel,_,st⟩:=he
  cases hrel
  have hb:Below W.heap.size W W':=⟨st.os,st.tape,st.output,st.size,fun k hk=>st.keep k hk fun ho=>by
   obtain ⟨id,ro,h1,_⟩:=own_noBox ho
   simp [allR,nth] at h1⟩
  have hlt:∀ y∈p,y.block < W.heap.size:=fun y hy=>by simpa using hW0.lt y (by simpa using hy)
  have e1:s.fn H (ds++[])={ results:=[.lit (.bool true)],args:=ds }:=by rw [List.append_nil]; exact hsp ds hlen
  refine ⟨_,rfl,post_below (pa:=p) (pv:=[]) hW0 ?_ ?_ ?_ rfl hb ?_⟩
  ·intro b sp hd
   rw [e1,hres]
   exact trodAll_mk1 (shut_bool hub true)
  ·intro sp hsp'
   rw [e1]
   exact trodAll_stays hl hb hr hA hlt (fun y hy=>hsp' y (by simpa using hy))
  ·intro sp _
   rw [e1,hvars]
   rfl
  ·intro j t r hj hr'
   rw [hres] at hj hr'
   cases j with
   | succ j=>simp at hj
   | zero=>
    simp at hj
    subst hj
    have:r=.bool true:=by simpa [Value.resultList] using hr'.symm
    subst this
    simp [Value.okWide,Cell.okWide,Cell.ok,hub]
end
end Go.Am
namespace Go.Am
open Go
theorem mapM_nth {α β:Type} {f:α→Option β}:∀ {l:List α} {r:List β},l.mapM f=some r→r.length=l.length∧∀ (i:Nat) (x:α),l[i]?=some x→∃ y,r[i]?=some y∧f x=some y
 | [],r,h=>by
  cases h
  exact ⟨rfl,fun i x h=>by simp at h⟩
 | a :: l,r,h=>by
  obtain ⟨y,ys,h1,h2,rfl⟩:=mapM_cons_some h
  obtain ⟨k1,k2⟩:=mapM_nth h2
  refine ⟨by simp [k1],fun i x hx=>?_⟩
  cases i with
  | zero=>
   simp at hx
   subst hx
   exact ⟨y,rfl,h1⟩
  | succ i=>simpa using k2 i x (by simpa using hx)
section
variable {P:Program} {W:World}
theorem trod_int {k:IntKind} {t:TypeId} {x:Int} {c:Value} {q:List MemPlace} {fuel:Nat} (he:P.underlying t=some (.int k)) (h:DataW.trod (fun _=>()) P W 0 (fun _=>true) false fuel t [c]=some (.lit (.int k x),q)):c=.int k x:=by
 cases fuel with
 | zero=>simp [DataW.trod] at h
 | succ fuel=>
  unfold DataW.trod at h
  simp only [he] at h
  cases c <;> simp at h
  obtain ⟨⟨rfl,_⟩,h2,_⟩:=h
  subst h2
  rfl
theorem relC_cells2 {g:Nat} {k:IntKind} (hg:g < W.heap.size):∀ (xs:List (Int × Int)) (o:Nat),(∀ i (hi:i < xs.length),W.cell? ⟨g,o+2 * i,none⟩=some (.int k xs[i].1)∧W.cell? ⟨g,o+2 * i+1,none⟩=some (.int k xs[i].2))→RelC (allR W) W g o (xs.flatMap fun x=>[.int k x.1,.int k x.2])
 | [],_,_=>.nil
 | x :: xs,o,h=>by
  obtain ⟨h1,h2⟩:=h 0 (by simp)
  refine .cons h1 rfl hg (.int k x.1) (.cons h2 rfl hg (.int k x.2) (relC_cells2 hg xs (o+1+1) fun i hi=>?_))
  have:=h (i+1) (by simpa using hi)
  rw [show o+1+1+2 * i=o+2 * (i+1) by omega]
  simpa using this
theorem laid_pairs {nm:String} {xs:List (Int × Int)} {k:IntKind} {g t e ti:Nat} {f1 f2:Field} (hg:P.globalNamed nm=some g) (ht:(P.globals[g]?).map (·.type)=some t) (hu:P.underlying t=some (.array xs.length e)) (he:P.underlying e=some (.struct #[f1,f2])) (h1o:f1.offset=0) (h1t:f1.type=ti) (h2o:f2.offset=1) (h2t:f2.type=ti)
  (hi:P.underlying ti=some (.int k)) (hci:P.cellsOf ti=1) (hc:P.cellsOf e=2) (hct:P.cellsOf t=xs.length * 2) (hx:0 < xs.length) :
  ∀ {l:List (String × DataW Unit)} {ps:List MemPlace},DataW.LaidVars P W l ps→(nm,DataW.agg (xs.map fun x=>.agg [.lit (.int k x.1),.lit (.int k x.2)]))∈l →
  RelC (allR W) W g 0 (xs.flatMap fun x=>[.int k x.1,.int k x.2])
 | [],_,_,hm=>by simp at hm
 | (n,d) :: r,ps,h,hm=>by
  obtain ⟨g',t',cs,fuel,p,q,h1,h2,h3,h4,h5,_⟩:=h
  rcases List.mem_cons.1 hm with hm | hm
  ·injection hm with e1 e2
   subst e1; subst e2
   obtain rfl:g=g':=Option.some.inj (hg.symm.trans h1)
   obtain rfl:t=t':=Option.some.inj (ht.symm.trans h2)
   cases fuel with
   | zero=>simp [DataW.trod] at h4
   | succ fuel=>
    unfold DataW.trod at h4
    simp only [hu,hc] at h4
    split at h4
    ·rename_i hlen
     rw [hct] at hlen
     cases hm2:(List.range xs.length).mapM fun i=>DataW.trod (fun _=>()) P W 0 (fun _=>true) false fuel e ((cs.toList.drop (i * 2)).take 2) with
     | none=>rw [hm2] at h4; cases h4
     | some ys=>
      rw [hm2] at h4
      have h6:ys.map (·.1)=xs.map fun x=>DataW.agg [.lit (.int k x.1),.lit (.int k x.2)]:=by
       have:=congrArg Prod.fst (Option.some.inj h4)
       injection this
      obtain ⟨k1,k2⟩:=mapM_nth hm2
      have hcell:∀ i (hi:i < xs.length),W.cell? ⟨g,0+2 * i,none⟩=some (.int k xs[i].1)∧W.cell? ⟨g,0+2 * i+1,none⟩=some (.int k xs[i].2):=fun i hi'=>by
       have hl:2 * i+1 < cs.toList.length:=by omega
       obtain ⟨y,e1,e2⟩:=k2 i i (by rw [List.getElem?_eq_getElem (by simpa using hi')]; simp)
       have e3:y.1=DataW.agg [.lit (.int k xs[i].1),.lit (.int k xs[i].2)]:=by
        have:=congrArg (fun l=>l[i]?) h6
        simp only [List.getElem?_map,e1,Option.map_some] at this
        rw [List.getElem?_eq_getElem hi'] at this
        simpa using this
       have e4:(cs.toList.drop (i * 2)).take 2=[cs.toList[2 * i]'(by omega),cs.toList[2 * i+1]]:=by
        rw [Nat.mul_comm,List.drop_eq_getElem_cons (by omega),List.drop_eq_getElem_cons (by omega)]
        rfl
       rw [e4] at e2
       cases fuel with
       | zero=>simp [DataW.trod] at e2
       | succ fuel=>
        unfold DataW.trod at e2
        simp only [he,hc,List.length_cons,List.length_nil,if_true,h1o,h2o,h1t,h2t,hci,List.drop_zero,List.take_succ_cons,List.take_zero,List.drop_succ_cons,List.mapM_cons,List.mapM_nil] at e2
        have g1:W.cell? ⟨g,0+2 * i,none⟩=some (cs.toList[2 * i]'(by omega)):=by
         rw [Go.World.var?_cell hg h3,← Array.getElem?_toList,Nat.zero_add,List.getElem?_eq_getElem (by omega)]
        have g2:W.cell? ⟨g,0+2 * i+1,none⟩=some cs.toList[2 * i+1]:=by
         rw [Go.World.var?_cell hg h3,← Array.getElem?_toList,Nat.zero_add,List.getElem?_eq_getElem hl]
        rw [g1,g2]
        generalize cs.toList[2 * i]'(by omega)=c1 at e2
        generalize cs.toList[2 * i+1]=c2 at e2
        cases q1:DataW.trod (fun _=>()) P W 0 (fun _=>true) false fuel ti [c1] with
        | none=>rw [q1] at e2; simp at e2
        | some y1=>
         cases q2:DataW.trod (fun _=>()) P W 0 (fun _=>true) false fuel ti [c2] with
         | none=>rw [q1,q2] at e2; simp at e2
         | some y2=>
          rw [q1,q2] at e2
          simp at e2
          rw [← e2] at e3
          simp at e3
          obtain ⟨d1,m1⟩:=y1
          obtain ⟨d2,m2⟩:=y2
          simp only at e3
          obtain ⟨rfl,rfl⟩:=e3
          exact ⟨congrArg some (trod_int hi q1),congrArg some (trod_int hi q2)⟩
      have hgs:g < W.heap.size:=by
       have h0:=(hcell 0 hx).1
       unfold World.cell? at h0
       split at h0
       ·rename_i hh
        exact (Array.getElem?_eq_some_iff.1 hh).1
       ·cases h0
      exact relC_cells2 hgs xs 0 hcell
    ·cases h4
  ·exact laid_pairs hg ht hu he h1o h1t h2o h2t hi hci hc hct hx h5 hm
end
end Go.Am
namespace Go.Am
open Go
theorem allFit_encs {p:Pat} (hp:p.plain=true) (l:List p.T):allFit p.fits (List.map p.enc l)=true:=by
 induction l with
 | nil=>rfl
 | cons x l ih=>simp [allFit,ih,(p.fits_enc x hp).1]
theorem map_decs {p:Pat} (hp:p.plain=true) (l:List p.T):List.map p.decD (List.map p.enc l)=l:=by
 induction l with
 | nil=>rfl
 | cons x l ih=>simp [ih,(p.fits_enc x hp).2]
end Go.Am
namespace Go.Am
open Go Go.RowKit
section
variable {E:Env} {R:Realm} {w w':World}
theorem Below.extR (h:Below w.heap.size w w') (wf:∀ b o,R.I b o→b < w.heap.size):Ext R w R w':=
 ⟨fun _ _ h=>h,fun b o hi=>cell_of_block (h.block b (wf b o hi)) o,fun _ ro h=>⟨ro,h,RoLe.refl ro⟩,.old fun b hb=>h.block b hb⟩
theorem Below.repG {G:List GO} (h:Below w.heap.size w w') (hg:RepG E R w G) (hE:E.lo=0):RepG E R w' G:=
 hg.keep (Below.extR h hg.wf) rfl (fun b hb=>h.block b (hg.live_lt hb)) (fun _ _ _ hi=>hi) (fun b o hi=>Nat.lt_of_lt_of_le (hg.wf b o hi) h.size) (fun _=>by rw [hE]; exact Nat.zero_le _)
theorem Below.stepR {β:Nat→Nat} {bx:Boxes} (h:Below w.heap.size w w') (wf:∀ b o,R.I b o→b < w.heap.size):Step R w β bx R w' β bx:=
 ⟨Below.extR h wf,h.os,h.tape,h.output,h.size,fun b hb _=>h.block b hb,fun _ _ ho=>ho,fun _ _ hi _ _=>hi⟩
theorem PCalls.below {g:FuncId} {args:List AV} {r:AV} (hp:Plain E.P g)
  (h:∀ (R:Realm) (w:World) (cs:List Value),RelL R w args cs→Calls E.P g ⟨cs⟩ w (fun e w'=>∃ v,e=.returned v∧(∀ R,Rel R w' r v)∧Below w.heap.size w w')) (hE:E.lo=0):PCalls E g args (fun r'=>r'=r):=fun G=>
 ⟨hp,fun R w cs hg hl=>callsIn_wide.2 ((h R w cs hl).mono fun e w' ⟨v,he,hv,hb⟩=>by
  subst he
  exact ⟨r,G,R,⟨rfl,rfl⟩,hv R,Below.repG hb hg hE,Below.stepR hb hg.wf⟩)⟩
theorem Plain.of {P : Program} {g : FuncId} {fn : Func} (h : P.funcs[g]? = some fn) (h1 : fn.body.isNone = false) (h2 : (fn.name == "runtime.NumGoroutine") = false) : Plain P g := ⟨fn, h, h1, h2⟩
end
def p2 (a b:Pat):Pats:=.cons a (.cons b .nil)
def p1 (a:Pat):Pats:=.cons a .nil
def trimLeftT:List UInt8 × List UInt8→Option (List UInt8)
 | (s,[c])=>bif Nat.blt c.toNat 128 then some (s.dropWhile (· == c)) else none
 | _=>none
def dig2 (n:Int):List UInt8:=bif decide (n < 10) then [UInt8.ofNat (48+n.toNat)] else [UInt8.ofNat (48+n.toNat / 10),UInt8.ofNat (48+n.toNat % 10)]
def itoaT (n:Int):Option (List UInt8):=bif decide (0≤n)&&decide (n < 100) then some (dig2 n) else none
def joinL:List (List UInt8)→List UInt8→List UInt8
 | [],_=>[]
 | [a],_=>a
 | a :: l,sep=>a++sep++joinL l sep
def joinT (x:List (List UInt8) × List UInt8):Option (List UInt8):=bif decide (x.1.length≤140737488355328)&&decide ((joinL x.1 x.2).length≤140737488355328) then some (joinL x.1 x.2) else none
def trimLeftE:Entry:=⟨p2 .str .str,.str,trimLeftT⟩
def itoaE:Entry:=⟨p1 (.int .i64),.str,itoaT⟩
def joinE':Entry:=⟨p2 (.list 1 .str) .str,.str,joinT⟩
section
variable {E:Env}
theorem trimLeft_ok {g:FuncId} (hp:Plain E.P g)
  (h:∀ (s:ByteArray) (c:UInt8),c.toNat < 128→∀ w:World,Calls E.P g #[.string s,.string ⟨#[c]⟩] w fun e w'=>e=.returned (.string ⟨(s.data.toList.dropWhile (· == c)).toArray⟩)∧w'=w) (hE:E.lo=0:=by rfl):EntryOk E g trimLeftE:=fun x y hT=>by
 obtain ⟨s,c⟩:=x
 match c,hT with
 | [c],hT=>
  obtain ⟨h1,h2⟩:=cond_some' hT
  subst h2
  refine PCalls.below hp (fun R w cs hl=>?_) hE
  cases hl with
  | cons a1 hl=>
  cases hl with
  | cons a2 hl=>
  cases hl
  cases a1; cases a2
  refine (h ⟨⟨s⟩⟩ c (Nat.le_of_ble_eq_true h1) w).mono ?_
  rintro e w' ⟨rfl,rfl⟩
  exact ⟨_,rfl,fun _=>Rel.str _,Below.refl _ _⟩
where
 cond_some' {c:Bool} {a x:List UInt8} (h:(bif c then some a else none)=some x):c=true∧a=x:=by
  cases c
  ·cases h
  ·exact ⟨rfl,Option.some.inj h⟩
theorem itoa_ok {g:FuncId} (hp:Plain E.P g)
  (h:∀ (i:Nat),i < 100→∀ w:World,Calls E.P g #[.int .i64 i] w fun e w'=>e=.returned (.string ⟨(dig2 i).toArray⟩)∧w'=w) (hE:E.lo=0:=by rfl):EntryOk E g itoaE:=fun x y hT=>by
 obtain ⟨n,rfl⟩:∃ n:Int,(show itoaE.ps.T from n)=x:=⟨x,rfl⟩
 obtain ⟨h1,h2⟩:=trimLeft_ok.cond_some' (show (bif decide ((0:Int)≤n)&&decide (n < 100) then some (dig2 n) else none)=some y from hT)
 subst h2
 rw [Bool.and_eq_true] at h1
 have a:=of_decide_eq_true h1.1
 have b:=of_decide_eq_true h1.2
 obtain ⟨i,rfl⟩:∃ i:Nat,n=i:=⟨n.toNat,by omega⟩
 refine PCalls.below hp (fun R w cs hl=>?_) hE
 cases hl with
 | cons a1 hl=>
 cases hl
 cases a1
 refine (h i (by omega) w).mono ?_
 rintro e w' ⟨rfl,rfl⟩
 exact ⟨_,rfl,fun _=>Rel.str _,Below.refl _ _⟩
theorem relE_strs {R:Realm} {w:World} {b:Nat}:∀ {xs:List (List UInt8)} {o:Nat},RelE R w b o 1 (xs.map (fun l=>AV.str l))→∀ (j:Nat) x,(xs.map fun l=>(⟨⟨l⟩⟩:ByteArray))[j]?=some x→w.cell? ⟨b,o+j,none⟩=some (.string x)
 | [],_,_,j,x,h=>by simp at h
 | a :: xs,o,.cons _ _ _ hc t,0,x,h=>by
  cases hc with
  | cons h1 h2 h3 h4 h5=>
  cases h4
  simp only [List.map_cons,List.getElem?_cons_zero] at h
  cases h
  exact h1
 | a :: xs,o,.cons _ _ _ hc t,j+1,x,h=>by
  simp only [List.map_cons,List.getElem?_cons_succ] at h
  have:=relE_strs t j x h
  rw [show o+(j+1)=o+1+j by omega]
  exact this
theorem join_ok {g:FuncId} (hp:Plain E.P g)
  (h0:∀ (a:Option Addr) (c:Nat) (sep:ByteArray) (w:World),Calls E.P g #[.slice a 0 c,.string sep] w fun e w'=>e=.returned (.string ⟨#[]⟩)∧w'=w)
  (h:∀ (bk o c:Nat) (xs:List ByteArray) (sep:ByteArray) (w:World),(∀ (j:Nat) x,xs[j]?=some x→w.cell? ⟨bk,o+j,none⟩=some (.string x))→bk < w.heap.size→xs.length≤140737488355328→xs.length≤c→(joinL (xs.map (·.data.toList)) sep.data.toList).length≤140737488355328 →
   Calls E.P g #[.slice (some ⟨bk,o,none⟩) xs.length c,.string sep] w fun e w'=>e=.returned (.string ⟨(joinL (xs.map (·.data.toList)) sep.data.toList).toArray⟩)∧Below w.heap.size w w') (hE:E.lo=0:=by rfl):EntryOk E g joinE':=fun x y hT=>by
 obtain ⟨xs,sep,rfl⟩:∃ (xs:List (List UInt8)) (sep:List UInt8),x=(xs,sep):=⟨x.1,x.2,rfl⟩
 obtain ⟨h1,h2⟩:=trimLeft_ok.cond_some' (show (bif decide (xs.length≤140737488355328)&&decide ((joinL xs sep).length≤140737488355328) then some (joinL xs sep) else none)=some y from hT)
 subst h2
 rw [Bool.and_eq_true] at h1
 have b1:=of_decide_eq_true h1.1
 have b2:=of_decide_eq_true h1.2
 refine PCalls.below hp (fun R w cs hl=>?_) hE
 cases hl with
 | @cons _ c1 _ _ a1 hl=>
 cases hl with
 | cons a2 hl=>
 cases hl
 cases a2
 have key:(xs=[]∧∃ a c',c1=.slice a 0 c')∨∃ bk o c',c1=.slice (some ⟨bk,o,none⟩) xs.length c'∧xs.length≤c'∧RelE R w bk o 1 (xs.map (fun l=>AV.str l)):=by
  have a1':Rel R w (.list .opn 1 (xs.map (fun l=>AV.str l))) c1:=a1
  generalize he:xs.map (fun l=>AV.str l)=es at a1'
  cases a1' with
  | lopn=>exact .inl ⟨by simpa using he,none,0,rfl⟩
  | @lemp _ ad=>exact .inl ⟨by simpa using he,some ad,0,rfl⟩
  | list h hl hc hk=>
   rw [← he,List.length_map] at hl
   subst hl
   exact .inr ⟨_,_,_,rfl,hc,h⟩
 by_cases hx:xs=[]
 ·subst hx
  obtain ⟨a,c',rfl⟩:∃ a c',c1=.slice a 0 c':=by
   rcases key with ⟨_,hk⟩ | ⟨bk,o,c',rfl,_⟩
   ·exact hk
   ·exact ⟨_,_,rfl⟩
  refine (h0 a c' ⟨⟨sep⟩⟩ w).mono ?_
  rintro e w' ⟨rfl,rfl⟩
  exact ⟨_,rfl,fun _=>Rel.str _,Below.refl _ _⟩
 ·rcases key with ⟨hk,_⟩ | ⟨bk,o,c',rfl,hc,hE⟩
  ·exact absurd hk hx
  ·have hcell:=relE_strs hE
   have hbk:bk < w.heap.size:=by
    match xs,hx with
    | x :: xs,_=>
     have:=hcell 0 ⟨⟨x⟩⟩ rfl
     unfold World.cell? at this
     rcases Nat.lt_or_ge bk w.heap.size with h' | h'
     ·exact h'
     ·rw [Array.getElem?_eq_none (by simpa using h')] at this
      cases this
   have hm:(xs.map fun l=>(⟨⟨l⟩⟩:ByteArray)).map (fun x=>x.data.toList)=xs:=by simp [List.map_map,Function.comp_def]
   have:=h bk o c' (xs.map fun l=>(⟨⟨l⟩⟩:ByteArray)) ⟨⟨sep⟩⟩ w hcell hbk (by rw [List.length_map]; exact b1) (by rw [List.length_map]; exact hc) (by rw [hm]; exact b2)
   rw [hm,List.length_map] at this
   refine this.mono ?_
   rintro e w' ⟨rfl,hb⟩
   exact ⟨_,rfl,fun _=>Rel.str _,hb⟩
end
end Go.Am
namespace Go.Am
open Go Go.RowKit Go.Proofs Go.Shelf
section
variable {E:Env} {R:Realm} {w w':World}
theorem RepG.rep {G:List GO} (h:RepG E R w G):Rep E R w (fun _=>0) ⟨[],noBox,G,[],none,0⟩ { tmps:=#[],defers:=[] }:=
 ⟨h,⟨fun k cs hk=>by simp [noBox,lkB] at hk,fun k k' cs cs' hk=>by simp [noBox,lkB] at hk⟩,fun i hi=>absurd rfl hi,rfl,trivial⟩
theorem cell_freeze (a:Addr) (n:Nat) (b o:Nat):(w.freeze a n).cell? ⟨b,o,none⟩=w.cell? ⟨b,o,none⟩:=by
 unfold World.freeze
 split
 ·rfl
 ·simp only [World.cell?,Array.getElem?_modify]
  by_cases e:a.block=b
  ·subst e
   simp only [if_true]
   cases h:w.heap[a.block]? with
   | none=>rfl
   | some x=>cases x <;> simp
  ·simp [e]
theorem heap_freeze {a:Addr} {n:Nat} {b:Nat} (h:b≠a.block):(w.freeze a n).heap[b]?=w.heap[b]?:=by
 unfold World.freeze
 split
 ·rfl
 ·simp only [Array.getElem?_modify]
  rw [if_neg (Ne.symm h)]
theorem size_freeze (a:Addr) (n:Nat):(w.freeze a n).heap.size=w.heap.size:=by
 unfold World.freeze
 split <;> simp
theorem RepG.frozen {G:List GO} (hg:RepG E R w G) {t f sz el g c n:Nat} (_ht:nth G t=some (.tok f sz el)) (hr:nth R.obj t=some (.tok f g c)) {cur:Array Value} {fz:Nat × Nat} (hc:w.heap[g]?=some (.cells cur el fz)) :
  RepG E R (w.drew.freeze ⟨g,0,none⟩ n) (setN G t .dead)∧Step R w (fun _=>0) noBox R (w.drew.freeze ⟨g,0,none⟩ n) (fun _=>0) noBox:=by
 have hl:Live R g:=⟨t,_,hr,rfl⟩
 have keep:∀ b,b≠g→(w.drew.freeze ⟨g,0,none⟩ n).heap[b]?=w.heap[b]?:=fun b hb=>heap_freeze (w:=w.drew) (a:=⟨g,0,none⟩) hb
 have hsz:(w.drew.freeze ⟨g,0,none⟩ n).heap.size=w.heap.size:=size_freeze (w:=w.drew) _ _
 have e:Ext R w R (w.drew.freeze ⟨g,0,none⟩ n):=⟨fun _ _ h=>h,fun b o _=>cell_freeze (w:=w.drew) _ _ b o,fun _ ro h=>⟨ro,h,RoLe.refl ro⟩,fun b r hb=>⟨r,by
  by_cases e:b=g
  ·subst e; rw [hc] at hb; cases hb
  ·rw [keep b e]; exact hb,rfl,rfl,rfl,rfl,rfl⟩⟩
 have hos:∀ (v:World) (a:Addr) (m:Nat),(v.freeze a m).os=v.os∧(v.freeze a m).tape=v.tape∧(v.freeze a m).output=v.output∧(v.freeze a m).drawn=v.drawn:=by
  intro v a m
  unfold World.freeze
  split <;> exact ⟨rfl,rfl,rfl,rfl⟩
 refine ⟨⟨by rw [length_setN]; exact hg.len,fun id go ro q1 q2=>?_,hg.inj,fun b o hi=>by rw [hsz]; exact hg.wf b o hi,fun x cs hx=>(hg.glob x cs hx).mono e,by rw [(hos _ _ _).2.2.2]; exact Nat.le_succ_of_le hg.lo⟩,⟨e,(hos _ _ _).1,(hos _ _ _).2.1,(hos _ _ _).2.2.1,by rw [hsz]; exact Nat.le_refl _,fun b hb hn=>keep b (fun e=>hn (e ▸ .inl hl)),fun _ _ ho=>ho,fun _ _ hi _ _=>hi⟩⟩
 rcases nth_setN q1 with ⟨rfl,rfl,_⟩ | ⟨hne,q1⟩
 ·rw [hr] at q2
  cases q2
  show g < _
  rw [hsz]
  exact block_lt hc
 ·refine (hg.obj id go ro q1 q2).mono e (fun b hb=>keep b (fun e=>hne ?_)) (fun _ _ _ hi=>hi)
  subst e
  exact hg.inj t id _ _ b hr q2 rfl hb
end
end Go.Am
namespace Go.Am
open Go
theorem w64 {x:Int} (h:-9223372036854775808≤x∧x≤9223372036854775807):IntKind.wrap .i64 x=x:=IntWalk.i64_in x (by omega)
def Big (N:Nat):Prop:=18446744073709551616≤N
theorem loopR_succ {V X:Type} (rd:V→Option (V ⊕ X)) (n:Nat) (v:V):loopR rd (n+1) v=(rd v).bind fun o=>Sum.elim (fun v'=>loopR rd n v') (fun x=>some x) o:=rfl
theorem nthD_map {α:Type} (g:α→AV) (xs:List α) (k:Nat) (h:k < xs.length):nthD (xs.map g) k=g xs[k]:=by
 unfold nthD
 rw [nth_eq,List.getElem?_map,List.getElem?_eq_getElem h]
 rfl
def foldI {S α Y:Type} (st:S→α→S ⊕ Y):S→List α→S ⊕ Y
 | s,[]=>.inl s
 | s,a :: l=>Sum.elim (fun s'=>foldI st s' l) (fun y=>.inr y) (st s a)
theorem loopR_fold {V X S α Y:Type} {rd:V→Option (V ⊕ X)} (l:List α) (E:S→Nat→V) (st:S→α→S ⊕ Y) (fin:S→X) (ex:Y→X) (P:S→Nat→Prop)
  (h:∀ s k (hk:k < l.length),P s k→rd (E s k)=some (Sum.map (fun s'=>E s' (k+1)) ex (st s l[k]))∧∀ s',st s l[k]=.inl s'→P s' (k+1))
  (h0:∀ s,P s l.length→rd (E s l.length)=some (.inr (fin s))) :
  ∀ n s k,k≤l.length→l.length < n+k→P s k→loopR rd n (E s k)=some (Sum.elim fin ex (foldI st s (l.drop k)))
 | 0,s,k,hk,hn,_=>by omega
 | n+1,s,k,hk,hn,hP=>by
  rw [loopR_succ]
  by_cases hlt:k < l.length
  ·obtain ⟨h1,h2⟩:=h s k hlt hP
   rw [h1,List.drop_eq_getElem_cons hlt]
   simp only [Option.bind_some,foldI]
   cases hs:st s l[k] with
   | inl s'=>
    simp only [Sum.map_inl,Sum.elim_inl]
    exact loopR_fold l E st fin ex P h h0 n s' (k+1) (by omega) (by omega) (h2 s' hs)
   | inr y=>simp only [Sum.map_inr,Sum.elim_inr]
  ·have:k=l.length:=by omega
   subst this
   rw [h0 s hP,List.drop_eq_nil_of_le (Nat.le_refl _)]
   rfl
theorem loopR_foldl {V X S α:Type} {rd:V→Option (V ⊕ X)} (l:List α) (E:S→Nat→V) (f:S→α→S) (fin:S→X) (P:S→Nat→Prop)
  (h:∀ s k (hk:k < l.length),P s k→rd (E s k)=some (.inl (E (f s l[k]) (k+1)))∧P (f s l[k]) (k+1))
  (h0:∀ s,P s l.length→rd (E s l.length)=some (.inr (fin s))) :
  ∀ n s k,k≤l.length→l.length < n+k→P s k→loopR rd n (E s k)=some (fin ((l.drop k).foldl f s))
 | 0,s,k,hk,hn,_=>by omega
 | n+1,s,k,hk,hn,hP=>by
  rw [loopR_succ]
  by_cases hlt:k < l.length
  ·obtain ⟨h1,h2⟩:=h s k hlt hP
   rw [h1,List.drop_eq_getElem_cons hlt]
   simp only [Option.bind_some,Sum.elim_inl,List.foldl_cons]
   exact loopR_foldl l E f fin P h h0 n _ (k+1) (by omega) (by omega) h2
  ·have:k=l.length:=by omega
   subst this
   rw [h0 s hP,List.drop_eq_nil_of_le (Nat.le_refl _)]
   rfl
theorem loopR_count {V X:Type} {rd:V→Option (V ⊕ X)} (m:Nat) (E:Nat→V) (x:X) (h:∀ k,k < m→rd (E k)=some (.inl (E (k+1)))) (h0:rd (E m)=some (.inr x)) :
  ∀ n k,k≤m→m < n+k→loopR rd n (E k)=some x
 | 0,k,hk,hn=>by omega
 | n+1,k,hk,hn=>by
  rw [loopR_succ]
  by_cases hlt:k < m
  ·rw [h k hlt]
   simp only [Option.bind_some,Sum.elim_inl]
   exact loopR_count m E x h h0 n (k+1) (by omega) (by omega)
  ·have:k=m:=by omega
   subst this
   rw [h0]
   rfl
theorem in_range {k n:Nat} (h:k < n):decide (0≤(k:Int)∧(k:Int) < (n:Int))=true:=by simp; omega
theorem lt_range {k n:Nat} (h:k < n):decide ((k:Int) < (n:Int))=true:=by simpa using h
theorem ge_range (n:Nat):decide ((n:Int) < (n:Int))=false:=by simp
theorem w_succ {k:Nat} (h:k < 9223372036854775807):IntKind.wrap .i64 ((k:Int)+1)=((k+1:Nat):Int):=by rw [w64 (by omega)]; simp
theorem foldl_snoc {α:Type} (l:List α):∀ a:List α,l.foldl (fun a x=>a++[x]) a=a++l:=by
 induction l with
 | nil=>intro a; simp
 | cons x l ih=>intro a; simp [ih]
theorem foldI_inl {S α Y:Type} {st:S→α→S ⊕ Y} {P:S→Nat→Prop}:∀ {l:List α} {s s':S} {k:Nat},(∀ s a s' k,a∈l→P s k→st s a=.inl s'→P s' (k+1))→P s k→foldI st s l=.inl s'→P s' (k+l.length)
 | [],s,s',k,_,h0,hf=>by
  simp only [foldI] at hf
  cases hf
  exact h0
 | a :: l,s,s',k,h,h0,hf=>by
  simp only [foldI] at hf
  cases hs:st s a with
  | inl s1=>
   rw [hs] at hf
   have:=foldI_inl (l:=l) (fun s a s' k ha=>h s a s' k (by simp [ha])) (h s a s1 k (by simp) h0 hs) hf
   rwa [show k+1+l.length=k+(a :: l).length by simp; omega] at this
  | inr y=>rw [hs] at hf; cases hf
def rng (n lo hi:Int):Int:=if n < lo∨n > hi then 3 else 0
def firstNZ:List Int→Int
 | []=>0
 | x :: l=>if x=0 then firstNZ l else x
theorem firstNZ_append (a b:List Int):firstNZ (a++b)=if firstNZ a=0 then firstNZ b else firstNZ a:=by
 induction a with
 | nil=>simp [firstNZ]
 | cons x a ih=>
  simp only [List.cons_append,firstNZ]
  by_cases h:x=0
  ·simp [h,ih]
  ·simp [h]
theorem firstNZ_zero {l:List Int}:firstNZ l=0↔∀ x∈l,x=0:=by
 induction l with
 | nil=>simp [firstNZ]
 | cons x l ih=>
  simp only [firstNZ,List.mem_cons,forall_eq_or_imp]
  by_cases h:x=0
  ·simp [h,ih]
  ·simp [h]
theorem first_loop {rd:Int→Option (Int ⊕ (Int ⊕ Unit))} (l:List Int)
  (h:∀ k (hk:k < l.length),rd (k:Int)=some (if l[k]=0 then .inl ((k+1:Nat):Int) else .inr (.inl l[k]))) (h0:rd (l.length:Int)=some (.inr (.inr ()))) (n:Nat) (hn:l.length < n) :
  ∃ o,loopR rd n 0=some o∧Sum.elim (fun x=>x) (fun _=>0) o=firstNZ l:=by
 have key:=loopR_fold (rd:=rd) (S:=Unit) (Y:=Int) l (fun _ k=>(k:Int)) (fun _ x=>if x=0 then .inl () else .inr x) (fun _=>.inr ()) (fun x=>.inl x) (fun _ _=>True)
  (fun s k hk _=>⟨by rw [h k hk]; by_cases e:l[k]=0 <;> simp [e],fun _ _=>trivial⟩) (fun _ _=>h0) n () 0 (Nat.zero_le _) (by omega) trivial
 refine ⟨_,key,?_⟩
 rw [List.drop_zero]
 clear key h h0 hn
 induction l with
 | nil=>rfl
 | cons x l ih=>
  simp only [foldI,firstNZ]
  by_cases e:x=0
  ·simp only [e,if_true,Sum.elim_inl]; exact ih
  ·simp [e]
theorem first_loop2 {rd:Int→Option (Int ⊕ (Int ⊕ Unit))} (l:List Int)
  (h:∀ k (hk:k < l.length),rd (k:Int)=some (if l[k]=0 then .inl ((k+1:Nat):Int) else .inr (.inl l[k]))) (h0:rd (l.length:Int)=some (.inr (.inr ()))) (n:Nat) (hn:l.length < n) :
  loopR rd n 0=some (if firstNZ l=0 then .inr () else .inl (firstNZ l)):=by
 have key:=loopR_fold (rd:=rd) (S:=Unit) (Y:=Int) l (fun _ k=>(k:Int)) (fun _ x=>if x=0 then .inl () else .inr x) (fun _=>.inr ()) (fun x=>.inl x) (fun _ _=>True)
  (fun s k hk _=>⟨by rw [h k hk]; by_cases e:l[k]=0 <;> simp [e],fun _ _=>trivial⟩) (fun _ _=>h0) n () 0 (Nat.zero_le _) (by omega) trivial
 rw [List.drop_zero] at key
 refine key.trans (congrArg some ?_)
 clear key h h0 hn
 induction l with
 | nil=>rfl
 | cons x l ih=>
  simp only [foldI,firstNZ]
  by_cases e:x=0
  ·simp only [e,if_true,Sum.elim_inl]; exact ih
  ·simp [e]
theorem beq0 {x:Int} (h:x≠0):(x == 0)=false:=by simpa using h
theorem bne0 {x:Int} (h:x≠0):(x != 0)=true:=by simpa using h
end Go.Am
namespace Go.Am
open Go Go.RowKit Go.Proofs Go.Shelf Go.Sort
def valA:AV→Value
 | .bool b=>.bool b
 | .int k n=>.int k n
 | .str l=>.string ⟨⟨l⟩⟩
 | _=>.bool false
theorem rel_valA {R:Realm} {w:World} {a:AV} {c:Value} (ha:scalarA a=true) (h:Rel R w a c):c=valA a:=by
 cases a <;> first | (cases ha; done) | (cases h; rfl)
theorem valA_rel {R:Realm} {w:World} {a:AV} (ha:scalarA a=true):Rel R w a (valA a):=by
 cases a <;> first | (cases ha; done) | constructor
theorem relL_vals {R:Realm} {w:World}:∀ {l:List AV} {vs:List Value},(∀ a∈l,scalarA a=true)→RelL R w l vs→vs=l.map valA
 | [],_,_,h=>by cases h; rfl
 | a :: l,_,hs,.cons h t=>by
  rw [rel_valA (hs a (by simp)) h,relL_vals (fun b hb=>hs b (by simp [hb])) t]
  rfl
theorem vals_relL {R:Realm} {w:World}:∀ {l:List AV},(∀ a∈l,scalarA a=true)→RelL R w l (l.map valA)
 | [],_=>.nil
 | a :: l,hs=>.cons (valA_rel (hs a (by simp))) (vals_relL fun b hb=>hs b (by simp [hb]))
theorem valA_one {a:AV} (ha:scalarA a=true):(valA a).oneCell'=true:=by
 cases a <;> first | (cases ha; done) | rfl
structure CmpForm (P:Program) (glob:Nat→Option (List AV)) (c:FuncId) (p:Pat) (k:Nat) (cf:p.T→p.T→Int):Prop where
 flat:p.flat=true
 size:∀ x,(p.enc x).cells.length=k
 scal:∀ x,∀ a∈(p.enc x).cells,scalarA a=true
 agg:∀ x,∃ cs,p.enc x=.agg cs
 calls:∀ (E:Env),E.P=P→E.glob=glob→∀ x y,PCalls E c [p.enc x,p.enc y] (fun r=>r=.int .i64 (cf x y))
 swo:SWO (ltOf cf)
 tot:∀ x y,(ltOf cf) x y=false→(ltOf cf) y x=false→x=y
def sortL (p:Pat) (cf:p.T→p.T→Int) (es:List AV):List AV:=(((es.map p.decD).mergeSort fun x y=>!(ltOf cf) y x)).map p.enc
def sortF (p:Pat) (cf:p.T→p.T→Int) (sz:Nat) (el:TypeId) (c:FuncId):List AV→List GO→Option (Bool × AV × List GO)
 | [.gsl id f off sz1 len,.fn c' [] []],G=>match nth G id with
  | some (.gro es sz2 el2)=>if Nat.beq c c'&&Nat.beq off 0&&Nat.beq sz1 sz&&Nat.beq sz2 sz&&Nat.beq el2 el then
    some (decide (f=es.length)&&decide (len=es.length)&&decide (es.length≤140737488355328)&&allFit p.fits es,.tup [],setN G id (.gro (sortL p cf es) sz el)) else none
  | _=>none
 | _,_=>none
theorem grow_of_below {W W':World} (h:Below W.heap.size W W') (hd:W.drawn≤W'.drawn):∃ q os,W'=Sort.grow (W.drewN q) os:=by
 refine ⟨W'.drawn - W.drawn,W'.heap.extract W.heap.size W'.heap.size,?_⟩
 have hh:W'.heap=W.heap++W'.heap.extract W.heap.size W'.heap.size:=by
  apply Array.ext_getElem?
  intro i
  by_cases hi:i < W.heap.size
  ·rw [Array.getElem?_append_left hi]
   exact h.block i hi
  ·rw [Array.getElem?_append_right (by omega),Array.getElem?_extract]
   have hs:=h.size
   by_cases hj:i < W'.heap.size
   ·rw [if_pos (by omega)]
    congr 1
    omega
   ·rw [if_neg (by omega),Array.getElem?_eq_none (by omega)]
 obtain ⟨hp,tp,dr,os,out⟩:=W'
 have h1:=h.os
 have h2:=h.tape
 have h3:=h.output
 simp only at hh h1 h2 h3 hd
 unfold Sort.grow World.drewN
 simp only
 rw [← hh,h1,h2,h3]
 congr 1
 omega
def encV (p:Pat) (x:p.T):List Value:=((p.enc x).cells).map valA
theorem flat_get {α:Type} [Inhabited α] {enc:α→List Value} {k:Nat} (hk:∀ x,(enc x).length=k):∀ (l:List α) (t:Nat),t < l.length * k→(l.flatMap enc)[t]?=some ((enc l[t / k]!)[t % k]!)
 | [],t,h=>by simp at h
 | x :: l,t,h=>by
  have hk0:0 < k:=by
   rcases Nat.eq_zero_or_pos k with h0 | h0
   ·rw [h0] at h; omega
   ·exact h0
  rw [List.flatMap_cons]
  by_cases ht:t < k
  ·rw [List.getElem?_append_left (by rw [hk]; exact ht),Nat.div_eq_of_lt ht,Nat.mod_eq_of_lt ht]
   have hl:t < (enc x).length:=by rw [hk]; exact ht
   simp [hl]
  ·have ht:k≤t:=Nat.le_of_not_lt ht
   rw [List.getElem?_append_right (by rw [hk]; exact ht),hk]
   have h':t - k < l.length * k:=by
    rw [List.length_cons,Nat.add_mul,Nat.one_mul] at h
    omega
   rw [flat_get hk l (t - k) h']
   have e1:t / k=(t - k) / k+1:=by
    rw [Nat.div_eq_sub_div hk0 ht]
   have e2:t % k=(t - k) % k:=Nat.mod_eq_sub_mod ht
   rw [e1,e2]
   simp
theorem flat_list {α:Type} [Inhabited α] {enc:α→List Value} {k:Nat} (hk:∀ x,(enc x).length=k) (d:Array α):(flatK enc k d).toList=d.toList.flatMap enc:=by
 have hl:(d.toList.flatMap enc).length=d.size * k:=by
  obtain ⟨l⟩:=d
  show (l.flatMap enc).length=l.length * k
  induction l with
  | nil=>simp
  | cons x l ih=>rw [List.flatMap_cons,List.length_append,hk,ih,List.length_cons,Nat.add_mul,Nat.one_mul,Nat.add_comm]
 apply List.ext_getElem?
 intro t
 by_cases ht:t < d.size * k
 ·have h1:=flat_get hk d.toList t (by simpa using ht)
  rw [h1]
  have hs:t < (flatK enc k d).size:=by rw [size_flatK]; exact ht
  have h2:=get_flatK enc k d t ht
  rw [getElem!_pos (flatK enc k d) t hs] at h2
  have e:∀ i:Nat,d[i]! = d.toList[i]!:=fun i=>by rw [getElem!_def,getElem!_def,Array.getElem?_toList]
  rw [Array.getElem?_toList,Array.getElem?_eq_getElem hs,h2,e]
 ·rw [List.getElem?_eq_none (by rw [Array.length_toList,size_flatK]; omega),List.getElem?_eq_none (by rw [hl]; omega)]
theorem cells_flat (p:Pat):∀ (xs:List p.T),(cellsL (xs.map p.enc)).map valA=xs.flatMap (encV p)
 | []=>rfl
 | x :: xs=>by
  rw [List.map_cons,cellsL,List.map_append,cells_flat p xs,List.flatMap_cons]
  rfl
theorem mapBlock_row {w:World} {b:Nat} {cur:Array Value} {el:TypeId} (h:w.heap[b]?=some (.cells cur el (0,0))) (f:Array Value→Array Value):mapBlock w b f=w.setRow b (f cur):=by
 unfold mapBlock World.setRow
 congr 1
 apply Array.ext_getElem?
 intro i
 rw [Array.getElem?_modify,Array.getElem?_modify]
 by_cases e:b=i
 ·subst e
  rw [if_pos rfl,if_pos rfl,h]
  rfl
 ·rw [if_neg e,if_neg e]
section
variable {E:Env} {ρ:Ren} {c:FuncId} {p:Pat} {k:Nat} {cf:p.T→p.T→Int} [Inhabited p.T]
theorem encV_len (hC:CmpForm E.P E.glob c p k cf) (x:p.T):(encV p x).length=k:=by
 unfold encV
 rw [List.length_map,hC.size]
theorem cmp_lays (hC:CmpForm E.P E.glob c p k cf) {R:Realm} {w:World} {G:List GO} (hg:RepG E R w G) {b:Nat} {cur:Array Value} {el:TypeId} (hb:w.heap[b]?=some (.cells cur el (0,0))) (hI:∀ o,¬ R.I b o) (size:Nat) :
  CmpLays E.P c #[] (encV p) k cf b 0 size w:=by
 intro m os dk _ x y
 have e1:putRowK (encV p) k (Sort.ahead w m) b 0 dk=(Sort.ahead w m).setRow b (putCells id 0 (flatK (encV p) k dk) cur):=mapBlock_row (w:=Sort.ahead w m) hb _
 have hW:sortWorldK (encV p) k w b 0 m dk os=Sort.grow ((Sort.ahead w m).setRow b (putCells id 0 (flatK (encV p) k dk) cur)) os:=by
  unfold sortWorldK
  rw [e1]
 rw [hW]
 generalize putCells id 0 (flatK (encV p) k dk) cur=cur2
 have eA:Ext R w R (Sort.ahead w m):=⟨fun _ _ h=>h,fun _ _ _=>rfl,fun _ ro h=>⟨ro,h,RoLe.refl ro⟩,.old fun _ _=>rfl⟩
 have eS:Ext R (Sort.ahead w m) R ((Sort.ahead w m).setRow b cur2):=ext_setRow hI cur2
 have hbel:Below ((Sort.ahead w m).setRow b cur2).heap.size ((Sort.ahead w m).setRow b cur2) (Sort.grow ((Sort.ahead w m).setRow b cur2) os):=by
  refine ⟨rfl,rfl,rfl,?_,fun i hi=>?_⟩
  ·show _≤(((Sort.ahead w m).setRow b cur2).heap++os).size
   rw [Array.size_append]; exact Nat.le_add_right _ _
  ·show (((Sort.ahead w m).setRow b cur2).heap++os)[i]?=_
   rw [Array.getElem?_append_left hi]
 have hsz:((Sort.ahead w m).setRow b cur2).heap.size=w.heap.size:=by unfold World.setRow; simp [Sort.ahead]
 have eG:Ext R ((Sort.ahead w m).setRow b cur2) R (Sort.grow ((Sort.ahead w m).setRow b cur2) os):=Below.extR hbel fun b' o hi=>by rw [hsz]; exact hg.wf b' o hi
 have eW:=(eA.trans eS).trans eG
 generalize hWd:Sort.grow ((Sort.ahead w m).setRow b cur2) os=W at *
 have hWs:w.heap.size≤W.heap.size:=by rw [← hsz]; exact hbel.size
 let E':Env:={ E with lo:=W.drawn }
 let R0:Realm:=⟨R.I,[]⟩
 have m0:Mv R R0 0:=⟨fun _ _ h=>h,fun _ _ h=>absurd h (Nat.not_lt_zero _)⟩
 have hg0:RepG E' R0 W []:=⟨rfl,fun id go ro h1 _=>by simp [nth] at h1,fun i j ri rj b h1=>by simp [R0,nth] at h1,fun b o h=>Nat.lt_of_lt_of_le (hg.wf b o h) hWs,
  fun g cs hgl=>((hg.glob g cs hgl).mono eW).move m0 (closedL_under _ (E.globOk g cs hgl)),Nat.le_refl _⟩
 have hrel:∀ z:p.T,Rel R0 W (p.enc z) (.agg (encV p z).toArray):=fun z=>by
  obtain ⟨cs,hcs⟩:=hC.agg z
  have hs:=hC.scal z
  unfold encV
  rw [hcs] at hs ⊢
  refine Rel.agg (vals_relL hs) fun v hv=>?_
  obtain ⟨a,ha,rfl⟩:=List.mem_map.1 hv
  exact valA_one (hs a ha)
 have hc:=(hC.calls E' rfl rfl x y []).2 R0 W [.agg (encV p x).toArray,.agg (encV p y).toArray] hg0 (.cons (hrel x) (.one (hrel y)))
 refine (callsIn_wide.1 hc).mono fun e w' he=>?_
 cases e with
 | panicked c=>exact he.elim
 | outgrown=>exact he.elim
 | returned cv=>
  obtain ⟨r,G',R1,⟨rfl,rfl⟩,hr,hg1,st⟩:=he
  have hcv:cv=.int .i64 (cf x y):=by cases hr; rfl
  subst hcv
  have hfree:∀ b,¬ Own R0 (fun _=>0) noBox b:=fun b ho=>by
   obtain ⟨id,ro,h1,_⟩:=own_noBox ho
   simp [R0,nth] at h1
  refine ⟨rfl,grow_of_below ⟨st.os,st.tape,st.output,st.size,fun i hi=>st.keep i hi (hfree i)⟩ hg1.lo⟩
theorem flat_dec {p:Pat} (hp:p.flat=true):∀ es:List AV,allFit p.fits es=true→es=(es.map p.decD).map p.enc
 | [],_=>rfl
 | a :: es,h=>by
  simp only [allFit,Bool.and_eq_true] at h
  rw [List.map_cons,List.map_cons,← flat_dec hp es h.2,Pat.flat_enc hp h.1]
theorem sortE_ok (L:SlLaysF0.n6 E.P ρ) (hp:Plain E.P (ρ.f 6)) (hc:Plain E.P c) (aE:∀ w,(isAgg (ρ.t 24)).run E.P w=.ok true w) (zE:∀ w,(Go.sizeOf (ρ.t 24)).run E.P w=.ok k w) (hC:CmpForm E.P E.glob c p k cf) (hE:E.lo=0) (hk0:1≤k) {el:TypeId} :
  ∀ (args:List AV) (G:List GO) (r:AV) (G':List GO),sortF p cf k el c args G=some (true,r,G')→ACalls E (ρ.f 6) args G (fun r' G''=>r'=r∧G''=G'):=by
 intro args G r G' h
 unfold sortF at h
 split at h
 ·rename_i G1 oid f off sz1 len c'
  split at h
  ·rename_i es sz2 el2 hid
   split at h
   ·rename_i hcnd
    simp only [Bool.and_eq_true] at hcnd
    obtain ⟨⟨⟨⟨q1,q2⟩,q3⟩,q4⟩,q5⟩:=hcnd
    have q1:=Nat.eq_of_beq_eq_true q1
    have q2:=Nat.eq_of_beq_eq_true q2
    have q3:=Nat.eq_of_beq_eq_true q3
    have q4:=Nat.eq_of_beq_eq_true q4
    have q5:=Nat.eq_of_beq_eq_true q5
    subst q1; subst q2; subst q3; subst q4; subst q5
    injection h with h
    injection h with h1 h
    injection h with h2 h3
    subst h2; subst h3
    simp only [Bool.and_eq_true,decide_eq_true_eq] at h1
    obtain ⟨⟨⟨hf,hlen0⟩,hbig⟩,hfit⟩:=h1
    refine ⟨hp,fun R w cs hg hl=>callsIn_wide.2 ?_⟩
    cases hl with
    | @cons _ cv _ _ r1 hl=>
    cases hl with
    | @cons _ fv _ _ r2 hl=>
    cases hl
    cases r2 with
    | fn x1 x2=>
    cases x1; cases x2
    by_cases he:es=[]
    ·subst he
     obtain ⟨pa,cap,rfl⟩:∃ pa cap,cv=.slice pa 0 cap:=by
      have hlen0:len=0:=hlen0
      subst hlen0
      cases r1 with
      | gnil _ _=>exact ⟨_,_,rfl⟩
      | gsl _ _ _=>exact ⟨_,_,rfl⟩
     refine (AnyF.slices_SortFunc_none (P:=E.P) (ρ:=ρ) L pa cap _ w).mono fun e w' ⟨e1,e2⟩=>?_
     subst e1; subst e2
     have hs0:sortL p cf []=[]:=by simp [sortL]
     have hG:setN G oid (.gro (sortL p cf []) sz2 el2)=G:=by rw [hs0]; exact setN_nth hid
     rw [hG]
     exact ⟨.tup [],G,R,⟨rfl,rfl⟩,Rel.tup .nil,hg,Step.refl _ _ _ _⟩
    ·have hpos:0 < es.length:=List.length_pos_iff.2 he
     cases r1 with
     | gnil _ _=>omega
     | @gsl _ _ _ _ _ cap b o' ro hro hok hcap=>
     subst hf; subst hlen0
     obtain ⟨b',c',cur,vs,rfl,g1,g2,g3,g4,g5,g6,g7,g8,g9⟩:=gro_tok hg hid hro (fun k=>by subst k; exact hok)
     obtain ⟨rfl,hcc,hoo⟩:=hok.2 rfl
     have ho':o'=0:=by
      rcases hoo with hoo | hoo
      ·rw [hoo,Nat.zero_mul]
      ·omega
     subst ho'
     -- the elements by their leaves
     have hdec:=flat_dec hC.flat es hfit
     generalize hxs:es.map p.decD=xs at hdec
     have hlen:xs.length=es.length:=by rw [← hxs,List.length_map]
     have hsc:∀ (ys:List p.T),∀ a∈cellsL (ys.map p.enc),scalarA a=true:=fun ys=>by
      induction ys with
      | nil=>intro a ha; simp [cellsL] at ha
      | cons y ys ih=>
       intro a ha
       rw [List.map_cons,cellsL] at ha
       rcases List.mem_append.1 ha with ha | ha
       ·exact hC.scal y a ha
       ·exact ih a ha
     have hvs:vs=xs.flatMap (encV p):=by
      rw [hdec] at g7
      rw [relL_vals (hsc xs) g7,cells_flat]
     have hd:(xs.toArray).size=es.length:=by simpa using hlen
     have hflat:(flatK (encV p) sz2 xs.toArray).toList=vs:=by rw [flat_list (encV_len hC),hvs]
     have hfs:(flatK (encV p) sz2 xs.toArray).size=es.length * sz2:=by rw [size_flatK,hd]
     have hcl:cur.toList.length=c' * sz2:=by rw [show cur.toList.length=cur.size from Array.length_toList,g5]
     have hle:es.length * sz2≤c' * sz2:=Nat.mul_le_mul_right _ g3
     have hH:HoldsK (encV p) sz2 w b 0 xs.toArray:=by
      intro j hj
      rw [hfs] at hj
      refine ⟨?_,?_⟩
      ·have hj2:j < (flatK (encV p) sz2 xs.toArray).size:=by rw [hfs]; exact hj
       rw [getElem!_pos (flatK (encV p) sz2 xs.toArray) j hj2,Nat.zero_add,cell_of_row w b j cur el2 (0,0) g2]
       have h1:cur[j]?=vs[j]?:=by
        rw [← g9,List.getElem?_take,if_pos hj,← Array.getElem?_toList]
       rw [h1,← hflat,Array.getElem?_toList,Array.getElem?_eq_getElem hj2]
       rfl
      ·unfold World.frozen?
       rw [g2]
       simp
     have hCL:=cmp_lays hC hg g2 g6 xs.toArray.size
     have key:=AnyQ.slices_SortFunc_total L sz2 aE zE (encV p) (encV_len hC) (fun x v hv=>by
      obtain ⟨a,ha,rfl⟩:=List.mem_map.1 hv
      exact valA_one (hC.scal x a ha)) cf hC.swo c #[] b 0 cap xs.toArray w (run_callFunc hc) hCL hH (block_lt g2) (by rw [hd]; omega) hC.tot
     rw [hd] at key
     refine key.mono fun e w' ⟨e1,n,os,e2⟩=>?_
     subst e1
     -- the world behind
     have e3:putRowK (encV p) sz2 (Sort.ahead w n) b 0 (xs.mergeSort fun x y=>!(ltOf cf) y x).toArray=(Sort.ahead w n).setRow b (putCells (fun v=>v) 0 (flatK (encV p) sz2 (xs.mergeSort fun x y=>!(ltOf cf) y x).toArray) cur):=mapBlock_row (w:=Sort.ahead w n) g2 _
     have e4:w'=Sort.grow ((Sort.ahead w n).setRow b (putCells (fun v=>v) 0 (flatK (encV p) sz2 (xs.mergeSort fun x y=>!(ltOf cf) y x).toArray) cur)) os:=by
      rw [e2]
      unfold sortWorldK
      rw [e3]
     clear e2 e3 key
     generalize hys:(xs.mergeSort fun x y=>!(ltOf cf) y x)=ys at e4
     have hyl:ys.length=es.length:=by rw [← hys,List.length_mergeSort,hlen]
     have hso:sortL p cf es=ys.map p.enc:=by unfold sortL; rw [hxs,hys]
     rw [hso]
     have hfy:(flatK (encV p) sz2 ys.toArray).toList=ys.flatMap (encV p):=by rw [flat_list (encV_len hC)]
     have hfys:(flatK (encV p) sz2 ys.toArray).size=es.length * sz2:=by rw [size_flatK]; simp [hyl]
     have hcs2:(putCells (fun v=>v) 0 (flatK (encV p) sz2 ys.toArray) cur).size=cur.size:=by simp [putCells]
     have htk:(putCells (fun v=>v) 0 (flatK (encV p) sz2 ys.toArray) cur).toList.take (es.length * sz2)=ys.flatMap (encV p):=by
      rw [← hfy]
      apply List.ext_getElem?
      intro t
      rw [List.getElem?_take]
      by_cases ht:t < es.length * sz2
      ·have h1:t < (flatK (encV p) sz2 ys.toArray).size:=by rw [hfys]; exact ht
       have h2:t < cur.size:=by rw [g5]; omega
       rw [if_pos ht,Array.getElem?_toList,Array.getElem?_toList,Array.getElem?_eq_getElem h1,Array.getElem?_eq_getElem (by rw [hcs2]; exact h2)]
       simp only [putCells,Array.getElem_mapIdx,Nat.zero_le,Nat.zero_add,h1,and_self,if_true,Nat.sub_zero]
       rw [getElem!_pos (flatK (encV p) sz2 ys.toArray) t h1]
      ·rw [if_neg ht,List.getElem?_eq_none (by rw [Array.length_toList,hfys]; omega)]
     generalize putCells (fun v=>v) 0 (flatK (encV p) sz2 ys.toArray) cur=cur2 at e4 hcs2 htk
     have hone:∀ v∈ys.flatMap (encV p),v.oneCell'=true:=fun v hv=>by
      obtain ⟨y,_,hy⟩:=List.mem_flatMap.1 hv
      obtain ⟨a,ha,rfl⟩:=List.mem_map.1 hy
      exact valA_one (hC.scal y a ha)
     have hel:ElOkG sz2 (ys.map p.enc):=fun a ha=>by
      obtain ⟨y,_,rfl⟩:=List.mem_map.1 ha
      refine ⟨hC.size y,?_⟩
      obtain ⟨cs,hcs⟩:=hC.agg y
      rw [hcs]; rfl
     have hrel:RelL R w (cellsL (ys.map p.enc)) (ys.flatMap (encV p)):=by
      rw [← cells_flat]
      exact vals_relL (hsc ys)
     have hrep:Rep E R w (fun _=>0) ⟨[],[],G,[],none,0⟩ (⟨#[],[]⟩:Act):=
      ⟨hg,⟨fun k cs h=>by simp [lkB] at h,fun k k' cs cs' h=>by simp [lkB] at h⟩,fun i hi=>absurd rfl hi,rfl,trivial⟩
     obtain ⟨k1,k2⟩:=hrep.setGro (es':=ys.map p.enc) hid hro g2 (by rw [List.length_map,hyl]) hel hcs2 hrel hone htk
     have hbel:Below (w.setRow b cur2).heap.size (w.setRow b cur2) w':=by
      rw [e4]
      refine ⟨rfl,rfl,rfl,?_,fun i hi=>?_⟩
      ·show _≤((w.setRow b cur2).heap++os).size
       rw [Array.size_append]; exact Nat.le_add_right _ _
      ·show ((w.setRow b cur2).heap++os)[i]?=_
       rw [Array.getElem?_append_left hi]
     exact ⟨.tup [],_,R,⟨rfl,rfl⟩,Rel.tup .nil,Below.repG hbel k1.g hE,k2.trans (Below.stepR hbel k1.g.wf)⟩
   ·cases h
  ·cases h
 ·cases h
end
end Go.Am
namespace Go.Am
open Go
def mrg (f:Nat→Nat) (e:Nat × Nat):Nat→Nat:=fun i=>if f i=max (f e.1) (f e.2) then min (f e.1) (f e.2) else f i
def lab (es:List (Nat × Nat)):Nat→Nat:=es.foldl mrg id
structure LabOk (f:Nat→Nat):Prop where
 le:∀ i,f i≤i
 idem:∀ i,f (f i)=f i
theorem labOk_id:LabOk id:=⟨fun _=>Nat.le_refl _,fun _=>rfl⟩
theorem LabOk.mrg {f:Nat→Nat} (h:LabOk f) (e:Nat × Nat):LabOk (mrg f e):=by
 have ha:=h.idem e.1
 have hb:=h.idem e.2
 refine ⟨fun i=>?_,fun i=>?_⟩
 ·have:=h.le i
  unfold Go.Am.mrg
  split <;> omega
 ·have hi:=h.idem i
  unfold Go.Am.mrg
  generalize f e.1=a at *
  generalize f e.2=b at *
  have hm:f (min a b)=min a b:=by rcases Nat.le_total a b with h | h <;> simp [Nat.min_eq_left,Nat.min_eq_right,h,ha,hb]
  by_cases h1:f i=max a b
  ·rw [if_pos h1,hm]
   split <;> omega
  ·rw [if_neg h1,hi,if_neg h1]
theorem foldl_labOk:∀ (es:List (Nat × Nat)) {f:Nat→Nat},LabOk f→LabOk (es.foldl mrg f)
 | [],_,h=>h
 | e :: es,_,h=>foldl_labOk es (h.mrg e)
theorem lab_ok (es:List (Nat × Nat)):LabOk (lab es):=foldl_labOk es labOk_id
theorem mrg_same {f:Nat→Nat} {i j:Nat} (e:Nat × Nat) (h:f i=f j):mrg f e i=mrg f e j:=by unfold mrg; rw [h]
theorem mrg_edge {f:Nat→Nat} (e:Nat × Nat):mrg f e e.1=mrg f e e.2:=by
 unfold mrg
 split <;> split <;> omega
theorem foldl_same:∀ (es:List (Nat × Nat)) {f:Nat→Nat} {i j:Nat},f i=f j→es.foldl mrg f i=es.foldl mrg f j
 | [],_,_,_,h=>h
 | e :: es,_,_,_,h=>foldl_same es (mrg_same e h)
theorem foldl_edge:∀ (es:List (Nat × Nat)) {f:Nat→Nat} {e:Nat × Nat},e∈es→es.foldl mrg f e.1=es.foldl mrg f e.2
 | d :: es,f,e,h=>by
  rcases List.mem_cons.1 h with rfl | h
  ·exact foldl_same es (mrg_edge _)
  ·exact foldl_edge es h
theorem lab_edge {es:List (Nat × Nat)} {e:Nat × Nat} (h:e∈es):lab es e.1=lab es e.2:=foldl_edge es h
theorem mrg_closed {f:Nat→Nat} {S:Nat→Prop} {e:Nat × Nat} (he:S e.1↔S e.2) (h:∀ i j,f i=f j→(S i↔S j)):∀ i j,mrg f e i=mrg f e j→(S i↔S j):=by
 intro i j hij
 have key:∀ k,f k=max (f e.1) (f e.2)∨f k=min (f e.1) (f e.2)→(S k↔S e.1):=by
  intro k hk
  have:f k=f e.1∨f k=f e.2:=by omega
  rcases this with h1 | h1
  ·exact h k e.1 h1
  ·exact (h k e.2 h1).trans he.symm
 unfold mrg at hij
 split at hij <;> split at hij
 ·exact (key i (by omega)).trans (key j (by omega)).symm
 ·exact (key i (by omega)).trans (key j (by omega)).symm
 ·exact (key i (by omega)).trans (key j (by omega)).symm
 ·exact h i j hij
theorem foldl_closed {S:Nat→Prop}:∀ (es:List (Nat × Nat)) {f:Nat→Nat},(∀ e∈es,S e.1↔S e.2)→(∀ i j,f i=f j→(S i↔S j))→∀ i j,es.foldl mrg f i=es.foldl mrg f j→(S i↔S j)
 | [],_,_,h=>h
 | e :: es,_,he,h=>foldl_closed es (fun d hd=>he d (by simp [hd])) (mrg_closed (he e (by simp)) h)
theorem lab_closed {S:Nat→Prop} {es:List (Nat × Nat)} (he:∀ e∈es,S e.1↔S e.2) {i j:Nat} (h:lab es i=lab es j):S i↔S j:=
 foldl_closed es he (fun i j h=>by have h:i=j:=h; rw [h]) i j h
theorem lab_ext {es ds:List (Nat × Nat)} (h1:∀ e∈es,lab ds e.1=lab ds e.2) (h2:∀ e∈ds,lab es e.1=lab es e.2):lab es=lab ds:=by
 have half:∀ {es ds:List (Nat × Nat)},(∀ e∈es,lab ds e.1=lab ds e.2)→∀ i,lab ds i≤lab es i:=by
  intro es ds h i
  have:=(lab_closed (S:=fun j=>lab ds j=lab ds i) (es:=es) (fun e he=>by rw [h e he]) (show lab es (lab es i)=lab es i from (lab_ok es).idem i)).2 rfl
  rw [← this]
  exact (lab_ok ds).le _
 funext i
 exact Nat.le_antisymm (half h2 i) (half h1 i)
theorem lab_perm {es ds:List (Nat × Nat)} (h:∀ e,e∈es∨(e.2,e.1)∈es↔e∈ds∨(e.2,e.1)∈ds):lab es=lab ds:=by
 have one:∀ {es ds:List (Nat × Nat)},(∀ e,e∈es→e∈ds∨(e.2,e.1)∈ds)→∀ e∈es,lab ds e.1=lab ds e.2:=by
  intro es ds h e he
  rcases h e he with h | h
  ·exact lab_edge h
  ·exact (lab_edge h).symm
 exact lab_ext (one fun e he=>(h e).1 (.inl he)) (one fun e he=>(h e).2 (.inl he))
structure UF (f:Nat→Nat) (n:Nat) (u:Nat→Nat):Prop where
 le:∀ i,i < n→u i≤i
 lb:∀ i,i < n→f (u i)=f i
 fix:∀ i,i < n→u i=i→f i=i
def upd (u:Nat→Nat) (i v:Nat):Nat→Nat:=fun j=>if j=i then v else u j
theorem upd_self (u:Nat→Nat) (i v:Nat):upd u i v i=v:=if_pos rfl
theorem upd_ne {u:Nat→Nat} {i v j:Nat} (h:j≠i):upd u i v j=u j:=if_neg h
theorem UF.id (n:Nat):UF id n id:=⟨fun _ _=>Nat.le_refl _,fun _ _=>rfl,fun _ _ _=>rfl⟩
theorem UF.half {f u:Nat→Nat} {n i:Nat} (h:UF f n u) (hi:i < n) (hne:u i≠i):UF f n (upd u i (u (u i))):=by
 have h1:=h.le i hi
 have h2:=h.le (u i) (by omega)
 have e1:f (u (u i))=f i:=(h.lb (u i) (by omega)).trans (h.lb i hi)
 refine ⟨fun j hj=>?_,fun j hj=>?_,fun j hj hf=>?_⟩
 ·by_cases e:j=i
  ·subst e; rw [upd_self]; omega
  ·rw [upd_ne e]; exact h.le j hj
 ·by_cases e:j=i
  ·subst e; rw [upd_self]; exact e1
  ·rw [upd_ne e]; exact h.lb j hj
 ·by_cases e:j=i
  ·subst e; rw [upd_self] at hf; omega
  ·rw [upd_ne e] at hf; exact h.fix j hj hf
theorem UF.join {f u:Nat→Nat} {n:Nat} (h:UF f n u) (hf:LabOk f) (e:Nat × Nat) (h1:e.1 < n) (h2:e.2 < n):UF (mrg f e) n (upd u (max (f e.1) (f e.2)) (min (f e.1) (f e.2))):=by
 have k1:=hf.le e.1
 have k2:=hf.le e.2
 have i1:=hf.idem e.1
 have i2:=hf.idem e.2
 have j1:=h.le (f e.1) (by omega)
 have j2:=h.le (f e.2) (by omega)
 have hm:f (min (f e.1) (f e.2))=min (f e.1) (f e.2):=by rcases Nat.le_total (f e.1) (f e.2) with h | h <;> simp [Nat.min_eq_left,Nat.min_eq_right,h,i1,i2]
 have hM:f (max (f e.1) (f e.2))=max (f e.1) (f e.2):=by rcases Nat.le_total (f e.1) (f e.2) with h | h <;> simp [Nat.max_eq_left,Nat.max_eq_right,h,i1,i2]
 refine ⟨fun j hj=>?_,fun j hj=>?_,fun j hj hj2=>?_⟩
 ·by_cases c:j=max (f e.1) (f e.2)
  ·subst c; rw [upd_self]; omega
  ·rw [upd_ne c]; exact h.le j hj
 ·by_cases c:j=max (f e.1) (f e.2)
  ·subst c
   rw [upd_self]
   unfold mrg
   rw [hM,hm,if_pos rfl]
   split <;> omega
  ·rw [upd_ne c]
   exact mrg_same e (h.lb j hj)
 ·by_cases c:j=max (f e.1) (f e.2)
  ·subst c
   rw [upd_self] at hj2
   unfold mrg
   rw [hM,if_pos rfl,hj2]
  ·rw [upd_ne c] at hj2
   have:=h.fix j hj hj2
   unfold mrg
   rw [this,if_neg c]
def stepP (p:Nat→Nat) (e:Nat × Nat):Nat→Nat:=upd (upd p e.1 (min (p e.1) (p e.2))) e.2 (min (p e.1) (p e.2))
def roundP (es:List (Nat × Nat)) (p:Nat→Nat):Nat→Nat:=es.foldl stepP p
structure PropOk (f p:Nat→Nat):Prop where
 le:∀ i,p i≤i
 lb:∀ i,f (p i)=f i
theorem stepP_le (p:Nat→Nat) (e:Nat × Nat) (i:Nat):stepP p e i≤p i:=by
 unfold stepP upd
 split
 ·subst i; omega
 ·split
  ·subst i; omega
  ·omega
theorem PropOk.step {f p:Nat→Nat} (h:PropOk f p) {e:Nat × Nat} (he:f e.1=f e.2):PropOk f (stepP p e):=by
 refine ⟨fun i=>Nat.le_trans (stepP_le p e i) (h.le i),fun i=>?_⟩
 have hm:f (min (p e.1) (p e.2))=f e.1:=by
  rcases Nat.le_total (p e.1) (p e.2) with c | c
  ·rw [Nat.min_eq_left c]; exact h.lb e.1
  ·rw [Nat.min_eq_right c,h.lb e.2]; exact he.symm
 unfold stepP upd
 split
 ·subst i; rw [hm]; exact he
 ·split
  ·subst i; exact hm
  ·exact h.lb i
theorem PropOk.round {f:Nat→Nat}:∀ (es:List (Nat × Nat)) {p:Nat→Nat},PropOk f p→(∀ e∈es,f e.1=f e.2)→PropOk f (roundP es p)
 | [],_,h,_=>h
 | e :: es,_,h,he=>PropOk.round es (h.step (he e (by simp))) fun d hd=>he d (by simp [hd])
end Go.Am
namespace Go.Am
open Go
section
variable {κ ν:Type} [DecidableEq κ]
def getM (k:κ):List (κ × ν)→Option ν
 | []=>none
 | (k',v) :: m=>if k=k' then some v else getM k m
def putM (k:κ) (v:ν):List (κ × ν)→List (κ × ν)
 | []=>[(k,v)]
 | (k',v') :: m=>if k=k' then (k,v) :: m else (k',v') :: putM k v m
theorem getM_put (k k':κ) (v:ν):∀ m:List (κ × ν),getM k' (putM k v m)=if k'=k then some v else getM k' m
 | []=>rfl
 | (k1,v1) :: m=>by
  unfold putM
  by_cases h:k=k1
  ·subst h
   rw [if_pos rfl]
   by_cases h2:k'=k
   ·simp [getM,h2]
   ·simp [getM,h2]
  ·rw [if_neg h]
   by_cases h2:k'=k1
   ·subst h2
    have h3:¬ k'=k:=fun e=>h e.symm
    simp [getM,h3]
   ·simp only [getM,if_neg h2]
    exact getM_put k k' v m
theorem putM_new {k:κ} {v:ν}:∀ {m:List (κ × ν)},getM k m=none→putM k v m=m++[(k,v)]
 | [],_=>rfl
 | (k1,v1) :: m,h=>by
  unfold getM at h
  split at h
  ·cases h
  ·rename_i hne
   unfold putM
   rw [if_neg hne,putM_new h]
   rfl
theorem getM_true (k:κ) (l:List κ):getM k (l.map fun x=>(x,true))=if k∈l then some true else none:=by
 induction l with
 | nil=>rfl
 | cons a l ih=>
  simp only [List.map_cons,getM,ih,List.mem_cons]
  by_cases h:k=a
  ·simp [h]
  ·simp [h]
structure MapEnc (ek:EK) (nk:κ→AV) (nv:ν→AV) (nM:κ × ν→AV):Prop where
 key:∀ a b,eqK ek (nk a) (nk b)=some (decide (a=b))
 pair:∀ x,nM x=.agg [nk x.1,nv x.2]
 exact:∀ x,(nM x).exact=true
variable {ek:EK} {nk:κ→AV} {nv:ν→AV} {nM:κ × ν→AV} (h:MapEnc ek nk nv nM)
include h
theorem MapEnc.keys (k:κ):∀ m:List (κ × ν),mkeys ek (nk k) (entriesL (List.map nM m))=true
 | []=>rfl
 | x :: m=>by
  have:=MapEnc.keys k m
  rw [List.map_cons,h.pair,entriesL]
  show ((eqK ek (nk k) (nk x.1)).isSome&&mkeys ek (nk k) (entriesL (List.map nM m)))=true
  rw [this,h.key]
  rfl
theorem MapEnc.get (k:κ):∀ m:List (κ × ν),mgetT ek (nk k) (entriesL (List.map nM m))=(getM k m).map nv
 | []=>rfl
 | x :: m=>by
  have ih:=MapEnc.get k m
  rw [List.map_cons,h.pair,entriesL]
  show (bif eqT ek (nk k) (nk x.1) then some (nv x.2) else mgetT ek (nk k) (entriesL (List.map nM m)))=(if k=x.1 then some x.2 else getM k m).map nv
  unfold eqT
  rw [h.key,ih]
  by_cases e:k=x.1
  ·simp [e]
  ·simp [e]
theorem MapEnc.getD (k:κ) (z:ν) (m:List (κ × ν)):mgetD ek (nk k) (nv z) (entriesL (List.map nM m))=nv ((getM k m).getD z):=by
 unfold mgetD
 rw [h.get]
 cases getM k m <;> rfl
theorem MapEnc.put (k:κ) (v:ν):∀ m:List (κ × ν),mputT ek (nk k) (nv v) (entriesL (List.map nM m))=entriesL (List.map nM (putM k v m))
 | []=>by
  show [(nk k,nv v)]=entriesL [nM (k,v)]
  rw [h.pair]
  rfl
 | x :: m=>by
  have ih:=MapEnc.put k v m
  rw [List.map_cons,h.pair,entriesL]
  show (bif eqT ek (nk k) (nk x.1) then (nk k,nv v) :: entriesL (List.map nM m) else (nk x.1,nv x.2) :: mputT ek (nk k) (nv v) (entriesL (List.map nM m)))=entriesL (List.map nM (if k=x.1 then (k,v) :: m else (x.1,x.2) :: putM k v m))
  unfold eqT
  rw [h.key,ih]
  by_cases e:k=x.1
  ·simp only [e,decide_true,cond_true,if_true,List.map_cons]
   rw [h.pair (x.1,v),entriesL]
   rfl
  ·simp only [e,decide_false,cond_false,if_false,List.map_cons]
   rw [h.pair (x.1,x.2),entriesL]
   rfl
theorem MapEnc.cells:∀ m:List (κ × ν),mcells (entriesL (List.map nM m))=List.map nM m
 | []=>rfl
 | x :: m=>by
  have ih:=MapEnc.cells m
  rw [List.map_cons,h.pair,entriesL]
  show AV.agg [nk x.1,nv x.2] :: mcells (entriesL (List.map nM m))=_
  rw [ih]
theorem MapEnc.allX (m:List (κ × ν)):Go.Am.allX (entriesL (List.map nM m))=true:=by
 unfold Go.Am.allX
 rw [h.cells]
 induction m with
 | nil=>rfl
 | cons x m ih=>rw [List.map_cons,exactL,ih,h.exact]; rfl
end
theorem eqK_int (k:IntKind) (a b:Int):eqK .int (.int k a) (.int k b)=some (decide (a=b)):=by
 unfold eqK
 simp only [eqA,if_true]
 by_cases h:a=b
 ·subst h; simp [EK.wide]
 ·have:(a == b)=false:=by simpa using h
  rw [this]; simp [h]
theorem eqK_three (a b:Int × Int × Int):eqK (.st (.cons 0 1 false .int (.cons 1 2 true (.st (.cons 0 1 false .int (.cons 1 1 false .int .nil))) .nil))) (.agg [.int .i64 a.1,.int .i64 a.2.1,.int .i64 a.2.2]) (.agg [.int .i64 b.1,.int .i64 b.2.1,.int .i64 b.2.2])=some (decide (a=b)):=by
 obtain ⟨a1,a2,a3⟩:=a
 obtain ⟨b1,b2,b3⟩:=b
 have e:eqA (.st (.cons 0 1 false .int (.cons 1 2 true (.st (.cons 0 1 false .int (.cons 1 1 false .int .nil))) .nil))) (.agg [.int .i64 a1,.int .i64 a2,.int .i64 a3]) (.agg [.int .i64 b1,.int .i64 b2,.int .i64 b3])=some ((a1 == b1)&&((((a2 == b2)&&((a3 == b3)&&true)))&&true)):=rfl
 unfold eqK
 rw [e]
 by_cases h1:a1=b1 <;> by_cases h2:a2=b2 <;> by_cases h3:a3=b3
 ·subst h1; subst h2; subst h3
  simp [EK.wide,keySame,keySameL,keySameS]
 all_goals simp [h1,h2,h3]
end Go.Am
