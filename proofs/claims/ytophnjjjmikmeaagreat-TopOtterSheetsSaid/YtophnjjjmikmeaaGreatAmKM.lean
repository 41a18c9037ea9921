/- The abstract machine: what a call's arguments read as. -/
import Derived.Test.YtophnjjjmikmeaaGreatAmKL
import GoSem.ClaimJoined
import Derived.Below
import Derived.ChangeSame
import Derived.Carry
import Derived.RowKit
import Derived.FnData
import Derived.Lib.Builder
import Derived.Lib.UnsafeStr
import Derived.IntWalk
import Derived.Shelf.SlSortCmp.NoneTotal
set_option linter.all false
namespace Go.Am
open Go
def oW (w:World):af:=⟨fun b _=>b < w.heap.size,[]⟩
mutual
def aq.wf:(p:aq)→p.T→Prop
 | .int k,(n:Int)=>k.min≤n∧n≤k.max
 | .bool,_=>True
 | .str,(s:List UInt8)=>s.length≤maxLen
 | .agg ps,x=>ps.wf x
 | .bt ps,x=>ps.wf x
 | .list _ p,(xs:List p.T)=>xs.length≤maxLen∧∀ x∈xs,p.wf x
 | .own _ _ p,(xs:List p.T)=>xs.length≤maxLen∧∀ x∈xs,p.wf x
 | .aH _ _ p,(x:Nat × List p.T)=>x.2.length≤maxLen∧∀ y∈x.2,p.wf y
 | .fx _ _,_=>True
 | .lg _,_=>True
 | .two _ _,_=>True
def aG.wf:(ps:aG)→ps.T→Prop
 | .nil,_=>True
 | .cons p .nil,x=>p.wf x
 | .cons p (.cons q ps),x=>p.wf x.1∧(aG.cons q ps).wf x.2
end
def jH:List aq→aG
 | []=>.nil
 | p :: l=>.cons p (jH l)
def FK {β:Type} (g:β→Option (List aq)):List β→Option (List aq)
 | []=>some []
 | x :: l=>match g x,FK g l with
  | some a,some b=>some (a++b)
  | _,_=>none
def qo {β:Type} (off len:β→Nat):Nat→List β→Option Nat
 | o,[]=>some o
 | o,x :: l=>bif Nat.beq (off x) o then qo off len (o+len x) l else none
def isSome (n:Nat):Option Nat→Bool
 | some m=>Nat.beq m n
 | none=>false
def qp (ag:Bool) (ps:List aq):Option aq:=match ag,ps with
 | true,ps=>some (.agg (jH ps))
 | false,[p]=>some p
 | _,_=>none
def FL (P:Program):Nat→TypeId→Option (List aq)
 | 0,_=>none
 | n+1,t=>match P.underlying t with
  | some .bool=>some [.bool]
  | some (.int k)=>some [.int k]
  | some .string=>some [.str]
  | some (.slice e)=>match FL P n e,P.underlying e with
   | some ps,some u=>match qp (Go.Am.iy u) ps with
    | some pe=>bif Nat.blt 0 (P.cellsOf e) then some [.list (P.cellsOf e) pe] else none
    | none=>none
   | _,_=>none
  | some (.struct fs)=>bif isSome (P.cellsOf t) (qo Field.offset (fun f=>P.cellsOf f.type) 0 fs.toList) then FK (fun f=>FL P n f.type) fs.toList else none
  | some (.array m e)=>bif isSome (P.cellsOf t) (qo (fun i=>i * P.cellsOf e) (fun _=>P.cellsOf e) 0 (List.range m)) then FK (fun _=>FL P n e) (List.range m) else none
  | _=>none
def Vq (a:AV):Prop:=a.aI=true∧a.cells=[a]∧a.closed=true
def oX:List aq→List AV→Prop
 | [],[]=>True
 | p :: ps,a :: ka=>p.fits a=true∧(p.wf (p.bc a)∧Vq a)∧oX ps ka
 | _,_=>False
theorem oX.append:∀ {ps qs:List aq} {ka bs:List AV},oX ps ka→oX qs bs→oX (ps++qs) (ka++bs)
 | [],_,[],_,_,h=>h
 | _ :: _,_,_ :: _,_,k,h=>⟨k.1,k.2.1,oX.append k.2.2 h⟩
 | [],_,_ :: _,_,h,_=>h.elim
 | _ :: _,_,[],_,h,_=>h.elim
theorem oX.mk:∀ {ps:List aq} {ka:List AV},oX ps ka→(jH ps).fits ka=true∧(jH ps).wf ((jH ps).bc ka)
 | [],[],_=>⟨rfl,trivial⟩
 | [p],[a],h=>⟨by
   change (p.fits a&&(List.isEmpty ([]:List AV)))=true
   rw [h.1]
   rfl,h.2.1.1⟩
 | p :: q :: ps,a :: ka,h=>by
  obtain ⟨h1,h2⟩:=oX.mk (ps:=q :: ps) h.2.2
  refine ⟨?_,h.2.1.1,h2⟩
  change (p.fits a&&(jH (q :: ps)).fits ka)=true
  rw [h.1,h1]
  rfl
 | [],_ :: _,h=>h.elim
 | _ :: _,[],h=>h.elim
 | [_],_ :: _ :: _,h=>h.2.2.elim
theorem Bz {ag:Bool} {ps:List aq} {pe:aq} (h:qp ag ps=some pe) {ka:List AV} (hf:oX ps ka) :
  ∃ e,(if ag then e=.agg ka else ka=[e])∧pe.fits e=true∧pe.wf (pe.bc e):=by
 unfold qp at h
 split at h
 ·cases h
  obtain ⟨h1,h2⟩:=hf.mk
  exact ⟨.agg ka,rfl,h1,h2⟩
 ·rename_i p
  cases h
  match ka,hf with
  | [a],hf=>exact ⟨a,rfl,hf.1,hf.2.1.1⟩
  | [],hf=>exact hf.elim
  | _ :: _ :: _,hf=>exact hf.2.2.elim
 ·cases h
theorem Ev:∀ {ps:List aq} {ka:List AV},oX ps ka→∀ a∈ka,a.aI=true∧a.cells=[a]∧a.closed=true
 | [],[],_,a,ha=>by simp at ha
 | _ :: _,b :: ka,hf,a,ha=>by
  rcases List.mem_cons.1 ha with rfl | ha
  ·exact hf.2.1.2
  ·exact Ev hf.2.2 a ha
 | [],_ :: _,h,_,_=>h.elim
 | _ :: _,[],h,_,_=>h.elim
theorem Ew {pe:aq}:∀ {es:List AV},(∀ x∈es,pe.fits x=true∧pe.wf (pe.bc x))→allFit pe.fits es=true∧∀ x∈es.map pe.bc,pe.wf x
 | [],_=>⟨rfl,by simp⟩
 | a :: es,h=>by
  obtain ⟨h1,h2⟩:=Ew (es:=es) fun x hx=>h x (by simp [hx])
  refine ⟨by simp only [allFit,Bool.and_eq_true]; exact ⟨(h a (by simp)).1,h1⟩,fun x hx=>?_⟩
  rcases List.mem_cons.1 hx with rfl | hx
  ·exact (h a (by simp)).2
  ·exact h2 x hx
section read
variable {H:Type} {enc:TypeId × Value→H} {P:Program} {w:World} {R:af} {base:Nat} {spare:Nat→Bool} {held:Bool}
theorem jI {α β:Type} {f:α→Option β} {x:α} {l:List α} {r:List β} (h:(x :: l).mapM f=some r):∃ y ys,f x=some y∧l.mapM f=some ys∧r=y :: ys:=by
 rw [List.mapM_cons] at h
 cases hx:f x with
 | none=>rw [hx] at h; cases h
 | some y=>
  rw [hx] at h
  cases hl:l.mapM f with
  | none=>rw [hl] at h; cases h
  | some ys=>rw [hl] at h; cases h; exact ⟨y,ys,rfl,rfl,rfl⟩
theorem vW {β:Type} {off len:β→Nat} {g:β→Option (List aq)} {cs:List Value} {f:β→Option (DataW H × List MemPlace)}
  (hf:∀ x ps y,g x=some ps→f x=some y→∃ ka,aA R w ka ((cs.drop (off x)).take (len x))∧oX ps ka∧∀ v∈(cs.drop (off x)).take (len x),v.oneCell'=true) :
  ∀ {L:List β} {o m:Nat} {ps:List aq} {ys:List (DataW H × List MemPlace)},qo off len o L=some m→FK g L=some ps→L.mapM f=some ys →
   o≤m∧∃ ka,aA R w ka ((cs.drop o).take (m - o))∧oX ps ka∧∀ v∈(cs.drop o).take (m - o),v.oneCell'=true
 | [],o,m,ps,ys,ht,hp,_=>by
  simp only [qo] at ht
  simp only [FK] at hp
  cases ht; cases hp
  exact ⟨Nat.le_refl _,[],by simpa using aA.nil,trivial,by simp⟩
 | x :: L,o,m,ps,ys,ht,hp,hm=>by
  unfold qo at ht
  cases hb:Nat.beq (off x) o with
  | false=>rw [hb] at ht; cases ht
  | true=>
   rw [hb] at ht
   have hb:=Nat.eq_of_beq_eq_true hb
   unfold FK at hp
   split at hp
   ·rename_i pa pb h1 h2
    cases hp
    obtain ⟨y,EO,k1,k2,rfl⟩:=jI hm
    obtain ⟨ka,q1,q2,q3⟩:=hf x pa y h1 k1
    obtain ⟨hle,bs,r1,r2,r3⟩:=vW hf (show qo off len (o+len x) L=some m from ht) h2 k2
    have e:(cs.drop o).take (m - o)=(cs.drop (off x)).take (len x)++(cs.drop (o+len x)).take (m - (o+len x)):=by
     rw [hb,show m - o=len x+(m - (o+len x)) by omega,List.take_add,List.drop_drop]
    rw [e]
    refine ⟨by omega,ka++bs,q1.append r1,q2.append r2,fun v hv=>?_⟩
    rcases List.mem_append.1 hv with hv | hv
    ·exact q3 v hv
    ·exact r3 v hv
   ·cases hp
theorem kS {α β:Type} {f:α→Option β}:∀ {l:List α} {r:List β},l.mapM f=some r→∀ (i:Nat) (x:α),l[i]?=some x→∃ y,r[i]?=some y∧f x=some y
 | [],r,_,i,x,hx=>by simp at hx
 | a :: l,r,h,i,x,hx=>by
  obtain ⟨y,ys,h1,h2,rfl⟩:=jI h
  cases i with
  | zero=>simp at hx; subst hx; exact ⟨y,by simp,h1⟩
  | succ i=>obtain ⟨z,h3,h4⟩:=kS h2 i x (by simpa using hx); exact ⟨z,by simpa using h3,h4⟩
theorem mapM_length {α β:Type} {f:α→Option β}:∀ {l:List α} {r:List β},l.mapM f=some r→r.length=l.length
 | [],r,h=>by simp at h; subst h; rfl
 | a :: l,r,h=>by
  obtain ⟨y,ys,h1,h2,rfl⟩:=jI h
  simp [mapM_length h2]
theorem Kn {a:Addr} {v:Value} (h:w.cell? a=some v):a.block < w.heap.size:=by
 unfold World.cell? at h
 split at h
 ·rename_i hb; exact a7 hb
 ·cases h
theorem yq {e:TypeId} {ps:List aq} {pe:aq} {ag:Bool} {qq:Nat} (hp:∀ (cs:List Value) (y:DataW H × List MemPlace),DataW.trod enc P w base spare held qq e cs=some y→∃ ka,aA (oW w) w ka cs∧oX ps ka∧∀ v∈cs,v.oneCell'=true) (he:qp ag ps=some pe) {b off len:Nat} {r:List (DataW H × List MemPlace)}
  (h:(List.range len).mapM (fun i=>(w.cells? base ((⟨b,off,none⟩:Addr).add (i * P.cellsOf e)) (P.cellsOf e)).bind (DataW.trod enc P w base spare held qq e))=some r) :
  ∀ (m i:Nat),i+m=len→∃ es,eY (oW w) w b (off+i * P.cellsOf e) (P.cellsOf e) es∧es.length=m∧∀ x∈es,pe.fits x=true∧pe.wf (pe.bc x)
 | 0,i,_=>⟨[],.nil,rfl,by simp⟩
 | m+1,i,hi=>by
  obtain ⟨es,h1,h2,h3⟩:=yq hp he h m (i+1) (by omega)
  obtain ⟨y,_,hy⟩:=kS h i i (by rw [List.getElem?_range (by omega)])
  obtain ⟨cs,hc,hy⟩:=bind_some hy
  obtain ⟨ka,q1,q2,q3⟩:=hp _ _ hy
  obtain ⟨x,hx,f1,f2⟩:=Bz he q2
  have kl:w.cells? base ((⟨b,off,none⟩:Addr).add (i * P.cellsOf e)) (P.cellsOf e)=some cs:=hc
  unfold World.cells? at kl
  split at kl
  ·have hlen:=mapM_length kl
   rw [List.length_range] at hlen
   have gd:x.cells=ka∧x.aI=true∧x.closed=true:=by
    have mL:=Ev q2
    cases ag with
    | true=>
     simp only [if_true] at hx
     subst hx
     refine ⟨rfl,rfl,?_⟩
     show aJ ka=true
     clear h1 h2 h3 q1 q2 f1 f2
     induction ka with
     | nil=>rfl
     | cons a ka ih=>simp only [aJ,Bool.and_eq_true]; exact ⟨(mL a (by simp)).2.2,ih (fun z hz=>mL z (by simp [hz]))⟩
    | false=>
     simp only [Bool.false_eq_true,if_false] at hx
     subst hx
     obtain ⟨k1,k2,k3⟩:=mL x (by simp)
     exact ⟨k2,k1,k3⟩
   have iV:∀ j v,cs[j]?=some v→w.cell? ⟨b,off+i * P.cellsOf e+j,none⟩=some v:=fun j v hv=>by
    have hj:j < P.cellsOf e:=by have:=(List.getElem?_eq_some_iff.1 hv).1; omega
    obtain ⟨v',k1,k2⟩:=kS kl j j (by rw [List.getElem?_range hj])
    rw [hv] at k1
    cases k1
    rw [bO,bO] at k2
    exact k2
   refine ⟨x :: es,.cons ?_ gd.2.1 gd.2.2 ?_ ?_,by simp [h2],fun z hz=>?_⟩
   ·rw [gd.1,q1.length,hlen]
   ·rw [gd.1]
    refine dN.make q1 q3 iV (fun j hj=>?_)
    have BT:j < cs.length:=by rw [← q1.length]; exact hj
    exact Kn (iV j cs[j] (List.getElem?_eq_getElem BT))
   ·rw [show off+i * P.cellsOf e+P.cellsOf e=off+(i+1) * P.cellsOf e by rw [Nat.add_mul]; omega]
    exact h1
   ·rcases List.mem_cons.1 hz with rfl | hz
    ·exact ⟨f1,f2⟩
    ·exact h3 z hz
  ·cases kl
theorem qt (wS:∀ b,spare b=true):∀ (n:Nat) {t:TypeId} {ps:List aq},FL P n t=some ps→∀ {qq:Nat} {cs:List Value} {y:DataW H × List MemPlace},DataW.trod enc P w base spare held qq t cs=some y →
  ∃ ka,aA (oW w) w ka cs∧oX ps ka∧∀ v∈cs,v.oneCell'=true
 | 0,_,_,h,_,_,_,_=>by cases h
 | n+1,t,ps,h,0,_,_,hy=>by cases hy
 | n+1,t,ps,h,qq+1,cs,y,hy=>by
  unfold FL at h
  unfold DataW.trod at hy
  split at h
  ·rename_i hu
   cases h
   rw [hu] at hy
   cases cs with
   | nil=>cases hy
   | cons v l=>
    cases l with
    | cons v2 l=>(cases v <;> first | (cases hy; done) | (rename_i a; cases a <;> cases hy; done) | (rename_i a b; cases a <;> cases hy; done) | (rename_i a b c; cases a <;> first | (cases hy; done) | (cases b <;> first | (cases hy; done) | (cases c <;> cases hy))))
    | nil=>
     cases v with
     | bool b=>exact ⟨[.bool b],.one (.bool b),⟨rfl,⟨trivial,rfl,rfl,rfl⟩,trivial⟩,by simp [Value.oneCell']⟩
     | pointer a=>cases a <;> cases hy
     | slice a b c=>cases a <;> first | (cases hy; done) | (cases b <;> first | (cases hy; done) | (cases c <;> cases hy))
     | map a=>cases a <;> cases hy
     | chan a=>cases a <;> cases hy
     | _=>cases hy
  ·rename_i k hu
   cases h
   rw [hu] at hy
   cases cs with
   | nil=>cases hy
   | cons v l=>
    cases l with
    | cons v2 l=>(cases v <;> first | (cases hy; done) | (rename_i a; cases a <;> cases hy; done) | (rename_i a b; cases a <;> cases hy; done) | (rename_i a b c; cases a <;> first | (cases hy; done) | (cases b <;> first | (cases hy; done) | (cases c <;> cases hy))))
    | nil=>
     cases v with
     | int k' i=>
      have hy:(if k'=k∧(Lit.int k i).wf=true then some (.lit (.int k i),[]) else none)=some y:=hy
      split at hy
      ·rename_i hc
       obtain ⟨rfl,hw⟩:=hc
       exact ⟨[.int k' i],.one (.int k' i),⟨decide_eq_true rfl,⟨by have h:=hw; simp [Lit.wf] at h; exact h,rfl,rfl,rfl⟩,trivial⟩,by simp [Value.oneCell']⟩
      ·cases hy
     | pointer a=>cases a <;> cases hy
     | slice a b c=>cases a <;> first | (cases hy; done) | (cases b <;> first | (cases hy; done) | (cases c <;> cases hy))
     | map a=>cases a <;> cases hy
     | chan a=>cases a <;> cases hy
     | _=>cases hy
  ·rename_i hu
   cases h
   rw [hu] at hy
   cases cs with
   | nil=>cases hy
   | cons v l=>
    cases l with
    | cons v2 l=>(cases v <;> first | (cases hy; done) | (rename_i a; cases a <;> cases hy; done) | (rename_i a b; cases a <;> cases hy; done) | (rename_i a b c; cases a <;> first | (cases hy; done) | (cases b <;> first | (cases hy; done) | (cases c <;> cases hy))))
    | nil=>
     cases v with
     | string s=>
      have hy:(if s.size≤maxLen then some (.lit (.string s.data.toList),[]) else none)=some y:=hy
      split at hy
      ·rename_i hc
       exact ⟨[.str s.data.toList],.one (.str s.data.toList),⟨rfl,⟨by simpa [aq.wf,aq.bc,AV.ML] using hc,rfl,rfl,rfl⟩,trivial⟩,by simp [Value.oneCell']⟩
      ·cases hy
     | pointer a=>cases a <;> cases hy
     | slice a b c=>cases a <;> first | (cases hy; done) | (cases b <;> first | (cases hy; done) | (cases c <;> cases hy))
     | map a=>cases a <;> cases hy
     | chan a=>cases a <;> cases hy
     | _=>cases hy
  ·rename_i e hu
   rw [hu] at hy
   split at h
   ·rename_i Ry u h1 h2
    split at h
    ·rename_i pe h3
     obtain ⟨hz,h⟩:=aY h
     cases h
     have hz:=Nat.le_of_ble_eq_true hz
     cases cs with
     | nil=>cases hy
     | cons v l=>
      cases l with
      | cons v2 l=>(cases v <;> first | (cases hy; done) | (rename_i a; cases a <;> cases hy; done) | (rename_i a b; cases a <;> cases hy; done) | (rename_i a b c; cases a <;> first | (cases hy; done) | (cases b <;> first | (cases hy; done) | (cases c <;> cases hy))))
      | nil=>
       cases v with
       | slice a len cap=>
        cases a with
        | none=>
         have hz:len=0∧cap=0:=by
          cases len with
          | zero=>cases cap with
           | zero=>exact ⟨rfl,rfl⟩
           | succ _=>cases hy
          | succ _=>cases hy
         obtain ⟨rfl,rfl⟩:=hz
         exact ⟨[.list .gA (P.cellsOf e) []],.one .gl,⟨by simp [aq.fits,allFit],⟨⟨Nat.zero_le _,fun x hx=>by change x∈([]:List pe.T) at hx; cases hx⟩,rfl,rfl,rfl⟩,trivial⟩,by simp [Value.oneCell']⟩
        | some a=>
         have hy:(if base≤a.block∧len≤cap∧cap≤maxLen then
          ((List.range len).mapM (fun i=>(w.cells? base (a.add (i * P.cellsOf e)) (P.cellsOf e)).bind (DataW.trod enc P w base spare held qq e))).bind fun Ex=>
           (if spare a.block then (List.range (cap - len)).mapM (fun j=>(w.cells? base (a.add ((len+j) * P.cellsOf e)) (P.cellsOf e)).bind (DataW.trod enc P w base spare held qq e)) else some []).map fun rest=>
            (DataW.slice (Ex.map (·.1)) (rest.map (·.1)),MemPlace.row a ((Ex.length+rest.length) * P.cellsOf e)++(Ex++rest).flatMap (·.2))
          else none)=some y:=hy
         split at hy
         ·rename_i hc
          obtain ⟨Ex,k1,hy⟩:=bind_some hy
          rw [if_pos (wS _)] at hy
          by_cases dW:cap=0
          ·subst dW
           have tC:len=0:=Nat.le_zero.1 hc.2.1
           subst tC
           exact ⟨[.list .gA (P.cellsOf e) []],.one .ki,⟨by simp [aq.fits,allFit],⟨⟨Nat.zero_le _,fun x hx=>by change x∈([]:List pe.T) at hx; cases hx⟩,rfl,rfl,rfl⟩,trivial⟩,by simp [Value.oneCell']⟩
          ·have HU:a.spot=none:=by
            have NG:∃ y,(w.cells? base (a.add (0 * P.cellsOf e)) (P.cellsOf e)).bind (DataW.trod enc P w base spare held qq e)=some y:=by
             by_cases tC:len=0
             ·subst tC
              cases hr:(List.range (cap - 0)).mapM (fun j=>(w.cells? base (a.add ((0+j) * P.cellsOf e)) (P.cellsOf e)).bind (DataW.trod enc P w base spare held qq e)) with
              | none=>rw [hr] at hy; cases hy
              | some r=>
               obtain ⟨z,_,hz⟩:=kS hr 0 0 (by rw [List.getElem?_range (by omega)])
               exact ⟨z,hz⟩
             ·obtain ⟨z,_,hz⟩:=kS k1 0 0 (by rw [List.getElem?_range (by omega)])
              exact ⟨z,hz⟩
            obtain ⟨z,YY⟩:=NG
            obtain ⟨cs,nS,_⟩:=bind_some YY
            unfold World.cells? at nS
            split at nS
            ·obtain ⟨v,_,hv⟩:=kS nS 0 0 (by rw [List.getElem?_range (by omega)])
             rw [Nat.zero_mul] at hv
             unfold World.cell? at hv
             split at hv
             ·split at hv
              ·cases hv
              ·rename_i hs
               simpa [Addr.add] using hs
             ·cases hv
            ·cases nS
           obtain ⟨b,off,spot⟩:=a
           have HU:spot=none:=HU
           subst HU
           obtain ⟨es,q1,q2,q3⟩:=yq (fun cs y hy=>qt wS n h1 hy) h3 k1 len 0 (by omega)
           rw [Nat.zero_mul,Nat.add_zero] at q1
           obtain ⟨f1,f2⟩:=Ew q3
           refine ⟨[.list .gA (P.cellsOf e) es],.one (.list q1 q2.symm hc.2.1 trivial),⟨?_,⟨⟨?_,f2⟩,rfl,rfl,rfl⟩,trivial⟩,by simp [Value.oneCell']⟩
           ·simp only [aq.fits,Bool.and_eq_true,Bool.or_eq_true]
            exact ⟨.inl (Nat.beq_refl _),f1⟩
           ·have:es.length≤maxLen:=by rw [q2]; omega
            show (es.map pe.bc).length≤maxLen
            rw [List.length_map]
            exact this
         ·cases hy
       | pointer a=>cases a <;> cases hy
       | map a=>cases a <;> cases hy
       | chan a=>cases a <;> cases hy
       | _=>cases hy
    ·cases h
   ·cases h
  ·rename_i fs hu
   rw [hu] at hy
   have hy:(if cs.length=P.cellsOf t then (fs.toList.mapM fun f=>DataW.trod enc P w base spare held qq f.type ((cs.drop f.offset).take (P.cellsOf f.type))).map fun xs=>(.agg (xs.map (·.1)),xs.flatMap (·.2)) else none)=some y:=hy
   split at hy
   ·rename_i hl
    obtain ⟨h1,h2⟩:=aY h
    cases hm:fs.toList.mapM fun f=>DataW.trod enc P w base spare held qq f.type ((cs.drop f.offset).take (P.cellsOf f.type)) with
    | none=>rw [hm] at hy; cases hy
    | some ys=>
     cases ht:qo Field.offset (fun f=>P.cellsOf f.type) 0 fs.toList with
     | none=>rw [ht] at h1; cases h1
     | some m=>
      rw [ht] at h1
      have h1:=Nat.eq_of_beq_eq_true (show Nat.beq m (P.cellsOf t)=true from h1)
      obtain ⟨_,ka,q1,q2,q3⟩:=vW (R:=oW w) (w:=w) (off:=Field.offset) (len:=fun f=>P.cellsOf f.type) (cs:=cs) (fun x ps y hx Vr=>qt wS n hx Vr) ht h2 hm
      rw [h1,← hl] at q1 q3
      simp only [List.drop_zero,Nat.sub_zero,List.take_length] at q1 q3
      exact ⟨ka,q1,q2,q3⟩
   ·cases hy
  ·rename_i m e hu
   rw [hu] at hy
   have hy:(if cs.length=P.cellsOf t then ((List.range m).mapM fun i=>DataW.trod enc P w base spare held qq e ((cs.drop (i * P.cellsOf e)).take (P.cellsOf e))).map fun xs=>(.agg (xs.map (·.1)),xs.flatMap (·.2)) else none)=some y:=hy
   split at hy
   ·rename_i hl
    obtain ⟨h1,h2⟩:=aY h
    cases hm:(List.range m).mapM fun i=>DataW.trod enc P w base spare held qq e ((cs.drop (i * P.cellsOf e)).take (P.cellsOf e)) with
    | none=>rw [hm] at hy; cases hy
    | some ys=>
     cases ht:qo (fun i=>i * P.cellsOf e) (fun _=>P.cellsOf e) 0 (List.range m) with
     | none=>rw [ht] at h1; cases h1
     | some k=>
      rw [ht] at h1
      have h1:=Nat.eq_of_beq_eq_true (show Nat.beq k (P.cellsOf t)=true from h1)
      obtain ⟨_,ka,q1,q2,q3⟩:=vW (R:=oW w) (w:=w) (off:=fun i=>i * P.cellsOf e) (len:=fun _=>P.cellsOf e) (cs:=cs) (fun x ps y hx Vr=>qt wS n hx Vr) ht h2 hm
      rw [h1,← hl] at q1 q3
      simp only [List.drop_zero,Nat.sub_zero,List.take_length] at q1 q3
      exact ⟨ka,q1,q2,q3⟩
   ·cases hy
  ·cases h
def N2 (P:Program) (n:Nat) (t:TypeId):Option aq:=match P.underlying t with
 | some u=>match FL P n t with
  | some ps=>qp (Go.Am.iy u) ps
  | none=>none
 | none=>none
theorem Ko (wS:∀ b,spare b=true) {n:Nat} {t:TypeId} {p:aq} (hp:N2 P n t=some p) {v:Value} {d:DataW H} {pl:List MemPlace} {r:Reach} {base':Nat} (ht:DataW.Trod enc P w base spare held t v d pl) (cM:Value.okWide P w r base' t v) :
  ∃ x:p.T,Rel (oW w) w (p.enc x) v∧p.wf x:=by
 obtain ⟨qq,ht⟩:=ht
 have fin:∀ {a:AV},p.fits a=true→p.wf (p.bc a)→Rel (oW w) w a v→∃ x:p.T,Rel (oW w) w (p.enc x) v∧p.wf x:=fun {a} h1 h2 h3=>⟨p.bc a,(p.cn h1).fB _ _ _ h3,h2⟩
 unfold N2 at hp
 split at hp
 ·rename_i u hu
  split at hp
  ·rename_i ps h1
   obtain ⟨ka,q1,q2,q3⟩:=qt wS n h1 ht
   obtain ⟨x,hx,f1,f2⟩:=Bz hp q2
   cases yS:Go.Am.iy u with
   | true=>
    rw [yS] at hx
    simp only [if_true] at hx
    subst hx
    have:∃ cs,v=.agg cs:=by
     unfold Value.okWide at cM
     rw [hu] at cM
     cases u <;> first | (cases yS; done) | (obtain ⟨cs,h,_⟩:=cM; exact ⟨cs,h⟩)
    obtain ⟨⟨cs⟩,rfl⟩:=this
    exact fin f1 f2 (.agg q1 q3)
   | false=>
    rw [yS] at hx
    simp only [Bool.false_eq_true,if_false] at hx
    subst hx
    have hv:v.cells.toList=[v]:=by
     cases v with
     | agg cs=>
      exfalso
      unfold Value.okWide at cM
      rw [hu] at cM
      cases u <;> first | (cases yS; done) | (simp [Cell.okWide,Cell.ok,hu] at cM)
     | _=>rfl
    rw [hv] at q1
    cases q1 with
    | cons q1 _=>exact fin f1 f2 q1
  ·cases hp
 ·cases hp
def BA (P:Program) (n:Nat):List TypeId→Option (List aq)
 | []=>some []
 | t :: l=>match N2 P n t,BA P n l with
  | some p,some r=>some (p :: r)
  | _,_=>none
theorem BB (wS:∀ b,spare b=true) {n:Nat} {r:Reach} {base':Nat}:∀ {ts:List TypeId} {ps:List aq} {vs:List Value} {ds:List (DataW H)} {pl:List MemPlace},BA P n ts=some ps→DataW.TrodAll enc P w base spare held ts vs ds pl →
  (∀ (j:Nat) t v,ts[j]?=some t→vs[j]?=some v→Value.okWide P w r base' t v)→∃ x:(jH ps).T,aA (oW w) w ((jH ps).enc x) vs∧(jH ps).wf x
 | [],ps,vs,ds,pl,hp,ht,_=>by
  simp only [BA] at hp
  cases hp
  cases vs with
  | nil=>exact ⟨(),.nil,trivial⟩
  | cons _ _=>cases ds <;> exact ht.elim
 | t :: ts,ps,vs,ds,pl,hp,ht,cM=>by
  unfold BA at hp
  split at hp
  ·rename_i p r h1 h2
   cases hp
   cases vs with
   | nil=>cases ds <;> exact ht.elim
   | cons v vs=>
    cases ds with
    | nil=>exact ht.elim
    | cons d ds=>
     obtain ⟨p1,p2,k1,k2,_⟩:=ht
     obtain ⟨x,q1,q2⟩:=Ko wS h1 k1 (cM 0 t v rfl rfl)
     obtain ⟨y,q3,q4⟩:=BB wS h2 k2 (fun j t v hj hv=>cM (j+1) t v (by simpa using hj) (by simpa using hv))
     cases r with
     | nil=>
      cases q3
      exact ⟨x,.one q1,q2⟩
     | cons p' r=>exact ⟨(x,y),.cons q1 q3,q2,q4⟩
  ·cases hp
end read
end Go.Am
namespace Go.Am
open Go Go.RowKit Go.WideShapes Go.ChangeShapes
section
variable {H:Type} {enc:TypeId × Value→H} {P:Program}
theorem Dx {f:Func} {s:ChangeSpec} {apart fresh handsOn again:Bool} {W W':World} {args:Array Value} {v:Value} {ds gs:List (DataW H)} {before pa pv:List MemPlace}
  (hW:DataW.Whole enc P f.params.toList s.vars apart W args.toList ds gs before)
  (zn:∀ (b:Nat) (sp:Nat→Bool) (hd:Bool),DataW.TrodAll enc P W' b sp hd f.resultTypes.toList (v.resultList f.resultTypes.size) (s.fn H (ds++gs)).results [])
  (lV:∀ sp:Nat→Bool,(∀ p∈before,sp p.block=true)→DataW.TrodAll enc P W' 0 sp true f.params.toList args.toList (s.fn H (ds++gs)).args pa)
  (BC:∀ sp:Nat→Bool,(∀ p∈before,sp p.block=true)→DataW.TrodVars enc P W' sp s.vars (s.fn H (ds++gs)).vars pv)
  (F9:before=pa++pv) (hb:Below W.heap.size W W')
  (cM:∀ (j:Nat) (t:TypeId) (r:Value),f.resultTypes[j]?=some t→(v.resultList f.resultTypes.size)[j]?=some r→Value.okWide P W' .any 0 t r) :
  s.post enc P f apart fresh handsOn again W args v W':=by
 have bM:∀ p∈before,p.block < W.heap.size:=fun p hp=>hW.lt p hp
 have hold:∀ p∈before,(fun b=>decide (b < W.heap.size)) p.block=true:=fun p hp=>by simpa using bM p hp
 refine ⟨ds,gs,before,[],pa,pv,hW,zn _ _ _,lV _ hold,BC _ hold,World.keptBut_mono (fun p hp=>⟨hp,?_⟩) (hb.frame (·∈before)),fun _=>?_⟩
 ·rw [F9,List.mem_append] at hp
  exact Or.inr hp
 ·obtain ⟨_,_,_,_,_,hz,hn⟩:=hW
  refine ⟨cM,_,_,([]++pa)++pv,⟨[]++pa,pv,trodAll_append (lV _ (fun _ _=>rfl)) (zn _ _ _),BC _ (fun _ _=>rfl),rfl,?_,?_⟩,?_⟩
  ·intro b off hp
   have xN:MemPlace.cell b off∈before:=by rw [F9]; simpa using hp
   rw [hb.frozen (bM _ xN)]
   exact hz b off xN
  ·intro ha
   have:=hn ha
   rw [F9] at this
   simpa using this
  ·intro p hp _
   rw [F9]
   simpa using hp
theorem om (hl:laidOutB P=true) {W W':World} (hb:Below W.heap.size W W') {sp:Nat→Bool}:∀ {ts:List TypeId} {vs:List Value} {ds:List (DataW H)} {pl:List MemPlace},
  (∀ t∈ts,P.readableRec t=true∧t < P.types.size)→DataW.TrodAll enc P W 0 (fun _=>true) true ts vs ds pl→(∀ p∈pl,p.block < W.heap.size)→(∀ p∈pl,sp p.block=true) →
  DataW.TrodAll enc P W' 0 sp true ts vs ds pl
 | [],[],[],_,_,h,_,_=>h
 | t :: ts,v :: vs,d :: ds,pl,hr,h,bM,wS=>by
  obtain ⟨p,q,h1,h2,rfl⟩:=h
  refine ⟨p,q,?_,om hl hb (fun t ht=>hr t (by simp [ht])) h2 (fun x hx=>bM x (by simp [hx])) (fun x hx=>wS x (by simp [hx])),rfl⟩
  exact WideElems.Trod_stays hl (hr t (by simp)).1 (hr t (by simp)).2 h1 (fun x hx=>hb.same (bM x (by simp [hx]))) (fun x hx=>wS x (by simp [hx]))
 | [],[],_ :: _,_,_,h,_,_=>h.elim
 | [],_ :: _,_,_,_,h,_,_=>h.elim
 | _ :: _,[],_,_,_,h,_,_=>h.elim
 | _ :: _,_ :: _,[],_,_,h,_,_=>h.elim
theorem FM {E:Env} {f:FuncId} {fn:Func} {s:ChangeSpec} {ps:List aq} {apart fresh handsOn again:Bool} {W:World} {base:Nat} {args:Array Value} {ds gs:List (DataW H)} {before:List MemPlace} {n tb:Nat}
  (Vs:∀ x,(jH ps).wf x→bP E f ((jH ps).enc x) (fun r=>r=.bool true)) (RT:BA E.P n fn.params.toList=some ps)
  (Kp:∀ (j:Nat) t v,fn.params[j]?=some t→args[j]?=some v→Value.okWide E.P W .any base t v)
  (hW:DataW.Whole enc E.P fn.params.toList s.vars apart W args.toList ds gs before) (RU:∀ g cs,E.cG g=some cs→dN (oW W) W g 0 cs)
  (BC:s.vars=[]) (wS:∀ ds:List (DataW H),ds.length=fn.params.toList.length→s.fn H ds={ results:=[.lit (.bool true)],args:=ds })
  (zn:fn.resultTypes=#[tb]) (W8:E.P.underlying tb=some .bool) (hl:laidOutB E.P=true) (hr:∀ t∈fn.params.toList,E.P.readableRec t=true∧t < E.P.types.size) (uD:E.lo=0:=by rfl) (RS:∀ g cs,E.cG g=some cs→E.gx g=true→g < W.heap.size∧W.cell? ⟨g,cs.length,none⟩=none:=by intro _ _ _ h; exact Bool.noConfusion (show false=true from h)) :
  Calls E.P f args W fun e W'=>∃ v,e=.returned v∧s.post enc E.P fn apart fresh handsOn again W args v W':=by
 have Vt:=hW
 obtain ⟨p,q,hA,hV,rfl,Tv,YZ⟩:=hW
 obtain ⟨rfl,rfl⟩:gs=[]∧q=[]:=by
  rw [BC] at hV
  cases gs with
  | nil=>exact ⟨rfl,hV⟩
  | cons g r=>exact absurd hV (by intro h; cases h)
 obtain ⟨x,hx,W9⟩:=BB (fun _=>rfl) (n:=n) RT hA (r:=.any) (base':=base) (fun j t v hj hv=>Kp j t v (by simpa using hj) (by simpa using hv))
 have hlen:ds.length=fn.params.toList.length:=by
  clear Kp Tv YZ Vt hx W9 wS RT hr
  revert hA
  generalize fn.params.toList=ts
  generalize args.toList=vs
  generalize p=pl
  clear p
  intro hA
  induction ts generalizing vs ds pl with
  | nil=>cases vs <;> cases ds <;> first | rfl | exact hA.elim
  | cons t ts ih=>
   cases vs with
   | nil=>cases ds <;> exact hA.elim
   | cons v vs=>
    cases ds with
    | nil=>exact hA.elim
    | cons d ds=>
     obtain ⟨p,q,_,h2,_⟩:=hA
     simp [ih vs q h2]
 have hG:dO E (oW W) W []:=⟨rfl,fun id go ro h=>by simp [nth] at h,fun i j ri rj b h=>by simp [oW,nth] at h,fun b o h=>h,fun g cs hg=>⟨RU g cs hg,fun hx=>RS g cs hg hx⟩,by rw [uD]; exact Nat.zero_le _⟩
 have hc:=(Vs x W9 [])
 refine (callsIn_wide.1 (hc.2 (oW W) W args.toList hG hx)).mono fun e W' he=>?_
 cases e with
 | panicked c=>exact he.elim
 | outgrown=>exact he.elim
 | returned c=>
  obtain ⟨r,G',R',⟨_,rfl⟩,dq,_,st⟩:=he
  cases dq
  have hb:Below W.heap.size W W':=⟨st.os,st.tape,st.output,st.size,fun k hk=>st.bl k hk fun ho=>by
   obtain ⟨id,ro,h1,_⟩:=eF ho
   simp [oW,nth] at h1⟩
  have bM:∀ y∈p,y.block < W.heap.size:=fun y hy=>by simpa using Vt.lt y (by simpa using hy)
  have e1:s.fn H (ds++[])={ results:=[.lit (.bool true)],args:=ds }:=by rw [List.append_nil]; exact wS ds hlen
  refine ⟨_,rfl,Dx (pa:=p) (pv:=[]) Vt ?_ ?_ ?_ rfl hb ?_⟩
  ·intro b sp hd
   rw [e1,zn]
   exact trodAll_mk1 (shut_bool W8 true)
  ·intro sp Vu
   rw [e1]
   exact om hl hb hr hA bM (fun y hy=>Vu y (by simpa using hy))
  ·intro sp _
   rw [e1,BC]
   rfl
  ·intro j t r hj gH
   rw [zn] at hj gH
   cases j with
   | succ j=>simp at hj
   | zero=>
    simp at hj
    subst hj
    have:r=.bool true:=by simpa [Value.resultList] using gH.symm
    subst this
    simp [Value.okWide,Cell.okWide,Cell.ok,W8]
end
end Go.Am
namespace Go.Am
open Go
section
variable {P:Program} {W:World}
end
end Go.Am
namespace Go.Am
open Go
theorem iq {p:aq} (hp:p.plain=true) (l:List p.T):allFit p.fits (List.map p.enc l)=true:=by
 induction l with
 | nil=>rfl
 | cons x l ih=>simp [allFit,ih,(p.bL x hp).1]
theorem ng {p:aq} (hp:p.plain=true) (l:List p.T):List.map p.bc (List.map p.enc l)=l:=by
 induction l with
 | nil=>rfl
 | cons x l ih=>simp [ih,(p.bL x hp).2]
end Go.Am
namespace Go.Am
open Go Go.RowKit
section
variable {E:Env} {R:af} {w w':World}
theorem Below.RV (h:Below w.heap.size w w') (wf:∀ b o,R.I b o→b < w.heap.size):Ext R w R w':=
 ⟨fun _ _ h=>h,fun b o hi=>bo (h.block b (wf b o hi)) o,fun _ ro h=>⟨ro,h,bI.refl ro⟩,.old fun b hb=>h.block b hb⟩
theorem Below.Vv {G:List GO} (h:Below w.heap.size w w') (hg:dO E R w G) (hE:E.lo=0):dO E R w' G:=
 hg.bl (Below.RV h hg.wf) rfl (fun b hb=>h.block b (hg.bq hb)) (fun _ _ _ hi=>hi) (fun b o hi=>Nat.lt_of_lt_of_le (hg.wf b o hi) h.size) (fun _=>by rw [hE]; exact Nat.zero_le _)
theorem Below.RW {β:Nat→Nat} {bx:bX} (h:Below w.heap.size w w') (wf:∀ b o,R.I b o→b < w.heap.size):Step R w β bx R w' β bx:=
 ⟨Below.RV h wf,h.os,h.tape,h.output,h.size,fun b hb _=>h.block b hb,fun _ _ ho=>ho,fun _ _ hi _ _=>hi⟩
theorem bP.below {g:FuncId} {args:List AV} {r:AV} (hp:Plain E.P g)
  (h:∀ (R:af) (w:World) (cs:List Value),aA R w args cs→Calls E.P g ⟨cs⟩ w (fun e w'=>∃ v,e=.returned v∧(∀ R,Rel R w' r v)∧Below w.heap.size w w')) (hE:E.lo=0):bP E g args (fun r'=>r'=r):=fun G=>
 ⟨hp,fun R w cs hg hl=>callsIn_wide.2 ((h R w cs hl).mono fun e w' ⟨v,he,hv,hb⟩=>by
  subst he
  exact ⟨r,G,R,⟨rfl,rfl⟩,hv R,Below.Vv hb hg hE,Below.RW hb hg.wf⟩)⟩
theorem Plain.of {P : Program} {g : FuncId} {fn : Func} (h : P.funcs[g]? = some fn) (h1 : fn.body.isNone = false) (h2 : (fn.name == "runtime.NumGoroutine") = false) : Plain P g := ⟨fn, h, h1, h2⟩
end
def p2 (a b:aq):aG:=.cons a (.cons b .nil)
def p1 (a:aq):aG:=.cons a .nil
def cD (s:List UInt8):Nat→List UInt8
 | 0=>[]
 | n+1=>s++cD s n
def tQ (x:List UInt8 × Int):Option (List UInt8):=bif decide (0≤x.2)&&decide (x.2≤9223372036854775807)&&decide (x.1.length * x.2.toNat≤140737488355328) then some (cD x.1 x.2.toNat) else none
def qu:List (List UInt8)→List UInt8→List UInt8
 | [],_=>[]
 | [a],_=>a
 | a :: l,sep=>a++sep++qu l sep
def RX (x:List (List UInt8) × List UInt8):Option (List UInt8):=bif decide (x.1.length≤140737488355328)&&decide ((qu x.1 x.2).length≤140737488355328) then some (qu x.1 x.2) else none
def zP:a8:=⟨p2 .str (.int .i64),.str,tQ⟩
def Dy:a8:=⟨p2 (.list 1 .str) .str,.str,RX⟩
section
variable {E:Env}
theorem vX {c:Bool} {a x:List UInt8} (h:(bif c then some a else none)=some x):c=true∧a=x:=by
 cases c
 ·cases h
 ·exact ⟨rfl,Option.some.inj h⟩
theorem FN {g:FuncId} (hp:Plain E.P g)
  (h:∀ (s:ByteArray) (c:Nat) (w:World),c≤9223372036854775807→s.size * c≤140737488355328→Calls E.P g #[.string s,.int .i64 c] w fun e w'=>e=.returned (.string ⟨(cD s.data.toList c).toArray⟩)∧Below w.heap.size w w') (hE:E.lo=0:=by rfl):ax E g zP:=fun x y hT=>by
 obtain ⟨s,n,rfl⟩:∃ (s:List UInt8) (n:Int),x=(s,n):=⟨x.1,x.2,rfl⟩
 obtain ⟨h1,h2⟩:=vX (show (bif decide (0≤n)&&decide (n≤9223372036854775807)&&decide (s.length * n.toNat≤140737488355328) then some (cD s n.toNat) else none)=some y from hT)
 subst h2
 rw [Bool.and_eq_true,Bool.and_eq_true] at h1
 have a:=of_decide_eq_true h1.1.1
 have b:=of_decide_eq_true h1.1.2
 have c:=of_decide_eq_true h1.2
 obtain ⟨i,rfl⟩:∃ i:Nat,n=i:=⟨n.toNat,by omega⟩
 refine bP.below hp (fun R w cs hl=>?_) hE
 cases hl with
 | cons a1 hl=>
 cases hl with
 | cons a2 hl=>
 cases hl
 cases a1; cases a2
 refine (h ⟨⟨s⟩⟩ i w (by omega) c).mono ?_
 rintro e w' ⟨rfl,hb⟩
 exact ⟨_,rfl,fun _=>Rel.str _,hb⟩
theorem yt {R:af} {w:World} {b:Nat}:∀ {xs:List (List UInt8)} {o:Nat},eY R w b o 1 (xs.map (fun l=>AV.str l))→∀ (j:Nat) x,(xs.map fun l=>(⟨⟨l⟩⟩:ByteArray))[j]?=some x→w.cell? ⟨b,o+j,none⟩=some (.string x)
 | [],_,_,j,x,h=>by simp at h
 | a :: xs,o,.cons _ _ _ hc t,0,x,h=>by
  cases hc with
  | cons h1 h2 h3 h4 h5=>
  cases h4
  simp only [List.map_cons,List.getElem?_cons_zero] at h
  cases h
  exact h1
 | a :: xs,o,.cons _ _ _ hc t,j+1,x,h=>by
  simp only [List.map_cons,List.getElem?_cons_succ] at h
  have:=yt t j x h
  rw [show o+(j+1)=o+1+j by omega]
  exact this
theorem Kq {g:FuncId} (hp:Plain E.P g)
  (h0:∀ (a:Option Addr) (c:Nat) (sep:ByteArray) (w:World),Calls E.P g #[.slice a 0 c,.string sep] w fun e w'=>e=.returned (.string ⟨#[]⟩)∧w'=w)
  (h:∀ (bk o c:Nat) (xs:List ByteArray) (sep:ByteArray) (w:World),(∀ (j:Nat) x,xs[j]?=some x→w.cell? ⟨bk,o+j,none⟩=some (.string x))→bk < w.heap.size→xs.length≤140737488355328→xs.length≤c→(qu (xs.map (·.data.toList)) sep.data.toList).length≤140737488355328 →
   Calls E.P g #[.slice (some ⟨bk,o,none⟩) xs.length c,.string sep] w fun e w'=>e=.returned (.string ⟨(qu (xs.map (·.data.toList)) sep.data.toList).toArray⟩)∧Below w.heap.size w w') (hE:E.lo=0:=by rfl):ax E g Dy:=fun x y hT=>by
 obtain ⟨xs,sep,rfl⟩:∃ (xs:List (List UInt8)) (sep:List UInt8),x=(xs,sep):=⟨x.1,x.2,rfl⟩
 obtain ⟨h1,h2⟩:=vX (show (bif decide (xs.length≤140737488355328)&&decide ((qu xs sep).length≤140737488355328) then some (qu xs sep) else none)=some y from hT)
 subst h2
 rw [Bool.and_eq_true] at h1
 have b1:=of_decide_eq_true h1.1
 have b2:=of_decide_eq_true h1.2
 refine bP.below hp (fun R w cs hl=>?_) hE
 cases hl with
 | @cons _ c1 _ _ a1 hl=>
 cases hl with
 | cons a2 hl=>
 cases hl
 cases a2
 have key:(xs=[]∧∃ a c',c1=.slice a 0 c')∨∃ bk o c',c1=.slice (some ⟨bk,o,none⟩) xs.length c'∧xs.length≤c'∧eY R w bk o 1 (xs.map (fun l=>AV.str l)):=by
  have Xa:Rel R w (.list .gA 1 (xs.map (fun l=>AV.str l))) c1:=a1
  generalize he:xs.map (fun l=>AV.str l)=es at Xa
  cases Xa with
  | gl=>exact .inl ⟨by simpa using he,none,0,rfl⟩
  | @ki _ ad=>exact .inl ⟨by simpa using he,some ad,0,rfl⟩
  | list h hl hc hk=>
   rw [← he,List.length_map] at hl
   subst hl
   exact .inr ⟨_,_,_,rfl,hc,h⟩
 by_cases hx:xs=[]
 ·subst hx
  obtain ⟨a,c',rfl⟩:∃ a c',c1=.slice a 0 c':=by
   rcases key with ⟨_,hk⟩ | ⟨bk,o,c',rfl,_⟩
   ·exact hk
   ·exact ⟨_,_,rfl⟩
  refine (h0 a c' ⟨⟨sep⟩⟩ w).mono ?_
  rintro e w' ⟨rfl,rfl⟩
  exact ⟨_,rfl,fun _=>Rel.str _,Below.refl _ _⟩
 ·rcases key with ⟨hk,_⟩ | ⟨bk,o,c',rfl,hc,hE⟩
  ·exact absurd hk hx
  ·have fw:=yt hE
   have Uh:bk < w.heap.size:=by
    match xs,hx with
    | x :: xs,_=>
     have:=fw 0 ⟨⟨x⟩⟩ rfl
     unfold World.cell? at this
     rcases Nat.lt_or_ge bk w.heap.size with h' | h'
     ·exact h'
     ·rw [Array.getElem?_eq_none (by simpa using h')] at this
      cases this
   have hm:(xs.map fun l=>(⟨⟨l⟩⟩:ByteArray)).map (fun x=>x.data.toList)=xs:=by simp [List.map_map,Function.comp_def]
   have:=h bk o c' (xs.map fun l=>(⟨⟨l⟩⟩:ByteArray)) ⟨⟨sep⟩⟩ w fw Uh (by rw [List.length_map]; exact b1) (by rw [List.length_map]; exact hc) (by rw [hm]; exact b2)
   rw [hm,List.length_map] at this
   refine this.mono ?_
   rintro e w' ⟨rfl,hb⟩
   exact ⟨_,rfl,fun _=>Rel.str _,hb⟩
end
end Go.Am
namespace Go.Am
open Go
theorem gf {x:Int} (h:-9223372036854775808≤x∧x≤9223372036854775807):IntKind.wrap .i64 x=x:=IntWalk.i64_in x (by omega)
def gQ (N:Nat):Prop:=18446744073709551616≤N
theorem dK {V X:Type} (rd:V→Option (V ⊕ X)) (n:Nat) (v:V):a6 rd (n+1) v=(rd v).bind fun o=>Sum.elim (fun v'=>a6 rd n v') (fun x=>some x) o:=rfl
theorem dv {α:Type} (g:α→AV) (xs:List α) (k:Nat) (h:k < xs.length):av (xs.map g) k=g xs[k]:=by
 unfold av
 rw [aE,List.getElem?_map,List.getElem?_eq_getElem h]
 rfl
def low (a b:Int):Int × Int:=(a / (Int.gcd a b:Int),b / (Int.gcd a b:Int))
def foldI {S α Y:Type} (st:S→α→S ⊕ Y):S→List α→S ⊕ Y
 | s,[]=>.inl s
 | s,a :: l=>Sum.elim (fun s'=>foldI st s' l) (fun y=>.inr y) (st s a)
theorem jJ {V X S α Y:Type} {rd:V→Option (V ⊕ X)} (l:List α) (E:S→Nat→V) (st:S→α→S ⊕ Y) (fin:S→X) (ex:Y→X) (P:S→Nat→Prop)
  (h:∀ s k (hk:k < l.length),P s k→rd (E s k)=some (Sum.map (fun s'=>E s' (k+1)) ex (st s l[k]))∧∀ s',st s l[k]=.inl s'→P s' (k+1))
  (h0:∀ s,P s l.length→rd (E s l.length)=some (.inr (fin s))) :
  ∀ n s k,k≤l.length→l.length < n+k→P s k→a6 rd n (E s k)=some (Sum.elim fin ex (foldI st s (l.drop k)))
 | 0,s,k,hk,hn,_=>by omega
 | n+1,s,k,hk,hn,hP=>by
  rw [dK]
  by_cases bM:k < l.length
  ·obtain ⟨h1,h2⟩:=h s k bM hP
   rw [h1,List.drop_eq_getElem_cons bM]
   simp only [Option.bind_some,foldI]
   cases hs:st s l[k] with
   | inl s'=>
    simp only [Sum.map_inl,Sum.elim_inl]
    exact jJ l E st fin ex P h h0 n s' (k+1) (by omega) (by omega) (h2 s' hs)
   | inr y=>simp only [Sum.map_inr,Sum.elim_inr]
  ·have:k=l.length:=by omega
   subst this
   rw [h0 s hP,List.drop_eq_nil_of_le (Nat.le_refl _)]
   rfl
theorem kb {V X S α:Type} {rd:V→Option (V ⊕ X)} (l:List α) (E:S→Nat→V) (f:S→α→S) (fin:S→X) (P:S→Nat→Prop)
  (h:∀ s k (hk:k < l.length),P s k→rd (E s k)=some (.inl (E (f s l[k]) (k+1)))∧P (f s l[k]) (k+1))
  (h0:∀ s,P s l.length→rd (E s l.length)=some (.inr (fin s))) :
  ∀ n s k,k≤l.length→l.length < n+k→P s k→a6 rd n (E s k)=some (fin ((l.drop k).foldl f s))
 | 0,s,k,hk,hn,_=>by omega
 | n+1,s,k,hk,hn,hP=>by
  rw [dK]
  by_cases bM:k < l.length
  ·obtain ⟨h1,h2⟩:=h s k bM hP
   rw [h1,List.drop_eq_getElem_cons bM]
   simp only [Option.bind_some,Sum.elim_inl,List.foldl_cons]
   exact kb l E f fin P h h0 n _ (k+1) (by omega) (by omega) h2
  ·have:k=l.length:=by omega
   subst this
   rw [h0 s hP,List.drop_eq_nil_of_le (Nat.le_refl _)]
   rfl
theorem df {V X:Type} {rd:V→Option (V ⊕ X)} (m:Nat) (E:Nat→V) (x:X) (h:∀ k,k < m→rd (E k)=some (.inl (E (k+1)))) (h0:rd (E m)=some (.inr x)) :
  ∀ n k,k≤m→m < n+k→a6 rd n (E k)=some x
 | 0,k,hk,hn=>by omega
 | n+1,k,hk,hn=>by
  rw [dK]
  by_cases bM:k < m
  ·rw [h k bM]
   simp only [Option.bind_some,Sum.elim_inl]
   exact df m E x h h0 n (k+1) (by omega) (by omega)
  ·have:k=m:=by omega
   subst this
   rw [h0]
   rfl
theorem bV {k n:Nat} (h:k < n):decide (0≤(k:Int)∧(k:Int) < (n:Int))=true:=by simp; omega
theorem ck {k n:Nat} (h:k < n):decide ((k:Int) < (n:Int))=true:=by simpa using h
theorem cT (n:Nat):decide ((n:Int) < (n:Int))=false:=by simp
theorem ea {k:Nat} (h:k < 9223372036854775807):IntKind.wrap .i64 ((k:Int)+1)=((k+1:Nat):Int):=by rw [gf (by omega)]; simp
def qv (n lo hi:Int):Int:=if n < lo∨n > hi then 3 else 0
def aX:List Int→Int
 | []=>0
 | x :: l=>if x=0 then aX l else x
theorem vY (a b:List Int):aX (a++b)=if aX a=0 then aX b else aX a:=by
 induction a with
 | nil=>simp [aX]
 | cons x a ih=>
  simp only [List.cons_append,aX]
  by_cases h:x=0
  ·simp [h,ih]
  ·simp [h]
theorem gz {l:List Int}:aX l=0↔∀ x∈l,x=0:=by
 induction l with
 | nil=>simp [aX]
 | cons x l ih=>
  simp only [aX,List.mem_cons,forall_eq_or_imp]
  by_cases h:x=0
  ·simp [h,ih]
  ·simp [h]
theorem oY {rd:Int→Option (Int ⊕ (Int ⊕ Unit))} (l:List Int)
  (h:∀ k (hk:k < l.length),rd (k:Int)=some (if l[k]=0 then .inl ((k+1:Nat):Int) else .inr (.inl l[k]))) (h0:rd (l.length:Int)=some (.inr (.inr ()))) (n:Nat) (hn:l.length < n) :
  ∃ o,a6 rd n 0=some o∧Sum.elim (fun x=>x) (fun _=>0) o=aX l:=by
 have key:=jJ (rd:=rd) (S:=Unit) (Y:=Int) l (fun _ k=>(k:Int)) (fun _ x=>if x=0 then .inl () else .inr x) (fun _=>.inr ()) (fun x=>.inl x) (fun _ _=>True)
  (fun s k hk _=>⟨by rw [h k hk]; by_cases e:l[k]=0 <;> simp [e],fun _ _=>trivial⟩) (fun _ _=>h0) n () 0 (Nat.zero_le _) (by omega) trivial
 refine ⟨_,key,?_⟩
 rw [List.drop_zero]
 clear key h h0 hn
 induction l with
 | nil=>rfl
 | cons x l ih=>
  simp only [foldI,aX]
  by_cases e:x=0
  ·simp only [e,if_true,Sum.elim_inl]; exact ih
  ·simp [e]
theorem sP {rd:Int→Option (Int ⊕ (Int ⊕ Unit))} (l:List Int)
  (h:∀ k (hk:k < l.length),rd (k:Int)=some (if l[k]=0 then .inl ((k+1:Nat):Int) else .inr (.inl l[k]))) (h0:rd (l.length:Int)=some (.inr (.inr ()))) (n:Nat) (hn:l.length < n) :
  a6 rd n 0=some (if aX l=0 then .inr () else .inl (aX l)):=by
 have key:=jJ (rd:=rd) (S:=Unit) (Y:=Int) l (fun _ k=>(k:Int)) (fun _ x=>if x=0 then .inl () else .inr x) (fun _=>.inr ()) (fun x=>.inl x) (fun _ _=>True)
  (fun s k hk _=>⟨by rw [h k hk]; by_cases e:l[k]=0 <;> simp [e],fun _ _=>trivial⟩) (fun _ _=>h0) n () 0 (Nat.zero_le _) (by omega) trivial
 rw [List.drop_zero] at key
 refine key.trans (congrArg some ?_)
 clear key h h0 hn
 induction l with
 | nil=>rfl
 | cons x l ih=>
  simp only [foldI,aX]
  by_cases e:x=0
  ·simp only [e,if_true,Sum.elim_inl]; exact ih
  ·simp [e]
theorem Kr (s:List UInt8) (k:Nat) (hk:k < s.length):((s[k].toNat < 128)→bA s k=(s[k].toNat,1))∧(128≤s[k].toNat→128≤(bA s k).1):=by
 have e1:s.getD k 0=s[k]:=by simp [hk]
 constructor
 ·intro h
  have:Nat.blt s[k].toNat 128=true:=Nat.ble_eq_true_of_le h
  unfold bA
  rw [e1,this]
  rfl
 ·intro h
  have:Nat.blt s[k].toNat 128=false:=by
   cases hb:Nat.blt s[k].toNat 128 with
   | false=>rfl
   | true=>have:=Nat.le_of_ble_eq_true hb; omega
  unfold bA
  rw [e1,this]
  simp only [cond_false]
  have e2:((⟨⟨s⟩⟩:ByteArray).get! (k+0)).toNat=s[k].toNat:=by
   simp [ByteArray.get!,hk]
  unfold Utf8.decode
  simp only [e2,if_neg (by omega:¬ s[k].toNat < 128)]
  have hr:(128:Nat)≤Utf8.runeError:=by decide
  repeat' split
  all_goals first | exact hr | skip
  all_goals simp_all
  all_goals omega
theorem RY {x:Int} (h:x≠0):(x == 0)=false:=by simpa using h
theorem HV {x:Int} (h:x≠0):(x != 0)=true:=by simpa using h
end Go.Am
namespace Go.Am
open Go Go.RowKit Go.Proofs Go.Shelf Go.Sort
section
variable {E:Env} {ρ:Ren} {c:FuncId} {p:aq} {k:Nat} {cf:p.T→p.T→Int} [Inhabited p.T]
end
end Go.Am
namespace Go.Am
open Go Go.Sort
section
variable {α:Type} [DecidableEq α] {lt:α→α→Bool}
def BK (lt:α→α→Bool) (l:List α):Prop:=l.Pairwise fun x y=>lt x y=true
omit [DecidableEq α] in
theorem tS (hw:SWO lt):∀ {a b:List α},BK lt a→BK lt b→(∀ x,x∈a↔x∈b)→a=b
 | [],[],_,_,_=>rfl
 | [],y :: b,_,_,h=>by have:=(h y).2 (by simp); simp at this
 | x :: a,[],_,_,h=>by have:=(h x).1 (by simp); simp at this
 | x :: a,y :: b,ha,hb,h=>by
  have Sx:=List.pairwise_cons.1 ha
  have iQ:=List.pairwise_cons.1 hb
  have Wd:x=y:=by
   have h1:=(h x).1 (by simp)
   have h2:=(h y).2 (by simp)
   rcases List.mem_cons.1 h1 with h1 | h1
   ·exact h1
   ·rcases List.mem_cons.1 h2 with h2 | h2
    ·exact h2.symm
    ·have l1:=iQ.1 x h1
     have l2:=Sx.1 y h2
     have:=hw.trans _ _ _ l1 l2
     rw [hw.irrefl] at this
     cases this
  subst Wd
  congr 1
  refine tS hw Sx.2 iQ.2 fun z=>?_
  constructor
  ·intro hz
   rcases List.mem_cons.1 ((h z).1 (by simp [hz])) with rfl | h2
   ·have:=Sx.1 z hz
    rw [hw.irrefl] at this
    cases this
   ·exact h2
  ·intro hz
   rcases List.mem_cons.1 ((h z).2 (by simp [hz])) with rfl | h2
   ·have:=iQ.1 z hz
    rw [hw.irrefl] at this
    cases this
   ·exact h2
end
end Go.Am
namespace Go.Am
open Go
section
variable {κ ν:Type} [DecidableEq κ]
def getM (k:κ):List (κ × ν)→Option ν
 | []=>none
 | (k',v) :: m=>if k=k' then some v else getM k m
def BQ (k:κ) (v:ν):List (κ × ν)→List (κ × ν)
 | []=>[(k,v)]
 | (k',v') :: m=>if k=k' then (k,v) :: m else (k',v') :: BQ k v m
theorem BR (k k':κ) (v:ν):∀ m:List (κ × ν),getM k' (BQ k v m)=if k'=k then some v else getM k' m
 | []=>rfl
 | (k1,v1) :: m=>by
  unfold BQ
  by_cases h:k=k1
  ·subst h
   rw [if_pos rfl]
   by_cases h2:k'=k
   ·simp [getM,h2]
   ·simp [getM,h2]
  ·rw [if_neg h]
   by_cases h2:k'=k1
   ·subst h2
    have h3:¬ k'=k:=fun e=>h e.symm
    simp [getM,h3]
   ·simp only [getM,if_neg h2]
    exact BR k k' v m
structure iP (ek:EK) (nk:κ→AV) (nv:ν→AV) (nM:κ × ν→AV):Prop where
 key:∀ a b,DM ek (nk a) (nk b)=some (decide (a=b))
 pair:∀ x,nM x=.agg [nk x.1,nv x.2]
 exact:∀ x,(nM x).exact=true
variable {ek:EK} {nk:κ→AV} {nv:ν→AV} {nM:κ × ν→AV} (h:iP ek nk nv nM)
include h
theorem iP.keys (k:κ):∀ m:List (κ × ν),dc ek (nk k) (ae (List.map nM m))=true
 | []=>rfl
 | x :: m=>by
  have:=iP.keys k m
  rw [List.map_cons,h.pair,ae]
  show ((DM ek (nk k) (nk x.1)).isSome&&dc ek (nk k) (ae (List.map nM m)))=true
  rw [this,h.key]
  rfl
theorem iP.get (k:κ):∀ m:List (κ × ν),eB ek (nk k) (ae (List.map nM m))=(getM k m).map nv
 | []=>rfl
 | x :: m=>by
  have ih:=iP.get k m
  rw [List.map_cons,h.pair,ae]
  show (bif wK ek (nk k) (nk x.1) then some (nv x.2) else eB ek (nk k) (ae (List.map nM m)))=(if k=x.1 then some x.2 else getM k m).map nv
  unfold wK
  rw [h.key,ih]
  by_cases e:k=x.1
  ·simp [e]
  ·simp [e]
theorem iP.getD (k:κ) (z:ν) (m:List (κ × ν)):b8 ek (nk k) (nv z) (ae (List.map nM m))=nv ((getM k m).getD z):=by
 unfold b8
 rw [h.get]
 cases getM k m <;> rfl
theorem iP.put (k:κ) (v:ν):∀ m:List (κ × ν),bz ek (nk k) (nv v) (ae (List.map nM m))=ae (List.map nM (BQ k v m))
 | []=>by
  show [(nk k,nv v)]=ae [nM (k,v)]
  rw [h.pair]
  rfl
 | x :: m=>by
  have ih:=iP.put k v m
  rw [List.map_cons,h.pair,ae]
  show (bif wK ek (nk k) (nk x.1) then (nk k,nv v) :: ae (List.map nM m) else (nk x.1,nv x.2) :: bz ek (nk k) (nv v) (ae (List.map nM m)))=ae (List.map nM (if k=x.1 then (k,v) :: m else (x.1,x.2) :: BQ k v m))
  unfold wK
  rw [h.key,ih]
  by_cases e:k=x.1
  ·simp only [e,decide_true,cond_true,if_true,List.map_cons]
   rw [h.pair (x.1,v),ae]
   rfl
  ·simp only [e,decide_false,cond_false,if_false,List.map_cons]
   rw [h.pair (x.1,x.2),ae]
   rfl
theorem iP.cells:∀ m:List (κ × ν),ao (ae (List.map nM m))=List.map nM m
 | []=>rfl
 | x :: m=>by
  have ih:=iP.cells m
  rw [List.map_cons,h.pair,ae]
  show AV.agg [nk x.1,nv x.2] :: ao (ae (List.map nM m))=_
  rw [ih]
theorem iP.bZ (m:List (κ × ν)):Go.Am.bZ (ae (List.map nM m))=true:=by
 unfold Go.Am.bZ
 rw [h.cells]
 induction m with
 | nil=>rfl
 | cons x m ih=>rw [List.map_cons,eu,ih,h.exact]; rfl
end
theorem LN (a b:Int × Int):DM (.st (.cons 0 1 false .int (.cons 1 1 false .int .nil))) (.agg [.int .i64 a.1,.int .i64 a.2]) (.agg [.int .i64 b.1,.int .i64 b.2])=some (decide (a=b)):=by
 obtain ⟨a1,a2⟩:=a
 obtain ⟨b1,b2⟩:=b
 have e:jT (.st (.cons 0 1 false .int (.cons 1 1 false .int .nil))) (.agg [.int .i64 a1,.int .i64 a2]) (.agg [.int .i64 b1,.int .i64 b2])=some ((a1 == b1)&&((a2 == b2)&&true)):=rfl
 unfold DM
 rw [e]
 by_cases h1:a1=b1 <;> by_cases h2:a2=b2
 ·subst h1; subst h2
  simp [EK.wide,lj,mi,pw]
 all_goals simp [h1,h2]
end Go.Am
namespace Go.Am
open Go
end Go.Am
